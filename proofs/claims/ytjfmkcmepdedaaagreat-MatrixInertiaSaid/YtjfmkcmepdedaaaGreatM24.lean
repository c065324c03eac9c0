/-
  A part of the proof: LawMxI1k, GabsMemo, Memo1kA, Memo1kB, Memo1kC, Memo1kD, Memo1kE, Memo1kF.
-/
import Derived.Test.YtjfmkcmepdedaaaGreatM23
set_option maxHeartbeats 0
set_option maxRecDepth 100000
set_option linter.unusedVariables false
set_option linter.unusedSimpArgs false
set_option linter.unusedSectionVars false
section
namespace Go.Proofs.YtjfmkcmepdedaaaGreat
open Go Go.Abs Go.Abs.M Go.Proofs
def ngL (M:Nat->List Rat) (i j:Nat):List Rat:=(List.range j).map fun x=>-(M i).getD x 0
def ngM (n:Nat) (M:Nat->List Rat):Nat->List Rat:=fun i=>ngL M i n
theorem ngL_len (M:Nat->List Rat) (i j:Nat):(ngL M i j).length=j:=by simp [ngL]
theorem ngL_succ (M:Nat->List Rat) (i j:Nat):ngL M i (j+1)=ngL M i j ++ [-(M i).getD j 0]:=by simp [ngL,List.range_succ]
def liSt (VR UR MM:Abs.Rows) (s t:Bool) (r p:Abs.Rows) (PI QI AI BI:Int) (x:Abs.Rows) (len:Nat) (I:Int):St:=mkSt 149 [.junk,.junk,.junk,.junk,vb false,vb true,.c (.t (.lst false MM)),.junk,.c (.ptr 11 0 0),.junk,vi .i64 PI,vi .i64 QI,.junk,vi .i64 AI,vi .i64 BI,.junk,.c (.sl 24 0 len false),vi .i64 I] ([none,none,some (.var [.t (.lst false VR),.t (.lst false UR)]),none,none,none,none,none,none,none,none,some (.var [.t (.v (.bool s)),.t (.lst false r),.t (.v (.bool t)),.t (.lst false p)]),none,none,none,none,none,none,none,none,none,none,none,none,some (.rows 1 x true false)])
def ljSt (VR UR MM:Abs.Rows) (s t:Bool) (r p:Abs.Rows) (PI QI AI BI:Int) (x:Abs.Rows) (len:Nat) (I:Int) (y:Abs.Rows) (ln2:Nat) (J:Int):St:=mkSt 149 [.junk,.junk,.junk,.junk,vb false,vb true,.c (.t (.lst false MM)),.junk,.c (.ptr 11 0 0),.junk,vi .i64 PI,vi .i64 QI,.junk,vi .i64 AI,vi .i64 BI,.junk,.c (.sl 24 0 len false),vi .i64 I,.c (.sl 25 0 ln2 false),vi .i64 J] ([none,none,some (.var [.t (.lst false VR),.t (.lst false UR)]),none,none,none,none,none,none,none,none,some (.var [.t (.v (.bool s)),.t (.lst false r),.t (.v (.bool t)),.t (.lst false p)]),none,none,none,none,none,none,none,none,none,none,none,none,some (.rows 1 x true false),some (.rows 4 y true false)])
theorem mxi_walk (hsan:ACall Tryz.prog 11 [] ⟨[.val (tb true)],[]⟩) (V U:List Int) (a:Int) {n:Nat} (hn:n<=4) {M:Nat->List Rat} {B:Nat} (hB:B<=1000000) (hl:∀ i,i < n->(M i).length=n) (hq:∀ i,i < n->∀ q ∈ M i,Qs q B) {TM C1 TT C2 EM:Abs.Rows} {s t:Bool} {r p:Abs.Rows} {sg:Int} {P Q A B2:Nat}
  (hP:P<=4) (hQ:Q<=4)
  (cbal:ACall Tryz.prog 13 [.val (.agg [.lst false (W .i8 V)]),.val (ti .u8 a)] ⟨[.val (tl (mr n M))],[none,none]⟩)
  (ct:ACall Tryz.prog 12 [.val (.agg [.lst false (W .i8 U)]),.val (ti .u8 a),.val (ti .u8 a)] ⟨[.val (tl TM)],[none,none,none]⟩)
  (cdet:ACall Tryz.prog 14 [.val (tl TM)] ⟨[.val (.agg [.v (.bool s),.lst false r,.v (.bool t),.lst false p]),.val (ti .i64 0)],[none]⟩)
  (csg1:ACall Tryz.prog 24 [.val (tl (mr n M))] ⟨[.val (ti .i64 (P:Int)),.val (ti .i64 (Q:Int)),.val (ti .i64 0)],[none]⟩)
  (cmul1:ACall Tryz.prog 29 [.val (tl TM),.val (tl (mr n M))] ⟨[.val (tl C1)],[none,none]⟩)
  (ctr:ACall Tryz.prog 34 [.val (tl TM)] ⟨[.val (tl TT)],[none]⟩)
  (cmul2:ACall Tryz.prog 29 [.val (tl C1),.val (tl TT)] ⟨[.val (tl C2)],[none,none]⟩)
  (csg2:ACall Tryz.prog 24 [.val (tl C2)] ⟨[.val (ti .i64 (A:Int)),.val (ti .i64 (B2:Int)),.val (ti .i64 0)],[none]⟩)
  (cech:ACall Tryz.prog 32 [.val (tl (mr n M))] ⟨[.val (tl EM)],[none]⟩) (lE:EM.length=P+Q)
  (csg3:ACall Tryz.prog 24 [.val (tl (mr n (ngM n M)))] ⟨[.val (ti .i64 (Q:Int)),.val (ti .i64 (P:Int)),.val (ti .i64 0)],[none]⟩)
  (csign:ACall Tryz.prog 36 [.val (.agg [.v (.bool s),.lst false r,.v (.bool t),.lst false p])] ⟨[.val (ti .i64 sg)],[none]⟩)
  (hcase:sg=0 ∨ sg ≠ 0/\A=P/\B2=Q) :
  ACall Tryz.prog 7 [.val (.agg [.lst false (W .i8 V),.lst false (W .i8 U)]),.val (ti .u8 a)] ⟨[.val (tb true)],[none,none]⟩:=by
 generalize W .i8 V=VR at *
 generalize W .i8 U=UR at *
 obtain ⟨MM,hMM⟩:∃ X,X=mr n M:=⟨_,rfl⟩
 have lM:MM.length=n:=by rw [hMM,mr_len]
 obtain ⟨T,hT⟩:∃ X,X=mr n (ngM n M):=⟨_,rfl⟩
 obtain ⟨PI,hPI⟩:∃ X:Int,X=(P:Int):=⟨_,rfl⟩
 obtain ⟨QI,hQI⟩:∃ X:Int,X=(Q:Int):=⟨_,rfl⟩
 obtain ⟨AI,hAI⟩:∃ X:Int,X=(A:Int):=⟨_,rfl⟩
 obtain ⟨BI,hBI⟩:∃ X:Int,X=(B2:Int):=⟨_,rfl⟩
 rw [<- hMM] at cbal csg1 cmul1 cech
 rw [<- hT] at csg3
 rw [<- hPI,<- hQI] at csg1 csg3
 rw [<- hAI,<- hBI] at csg2
 have hcase:sg=0 ∨ sg ≠ 0/\AI=PI/\BI=QI:=hcase.imp id fun ⟨h0,h1,h2⟩=>⟨h0,by rw [hAI,hPI,h1],by rw [hBI,hQI,h2]⟩
 refine callZ ccOk mixed [.val] Tryz.func7 rfl rfl (by kernel_rfl) fun zA zB zC zD zE zF zG zH zI zJ zK zL zM zN zO zP zQ zR zT zU zV zX zY zZ zb zc zd ze zg zh zi zj zk zl zm zn zo zq zr zs zt zu zx zy zz zmget zmset zW zth A L F hS hF=>?_
 have y0:zQ true=false:=by rw [hS.not]; rfl
 have d0:zN 0 0=false:=by rw [hS.ne]; rfl
 have w1:zA .i64 (zB PI QI)=zZ (zj EM):=by rw [hS.add,hS.ofN,hS.len,lE,hS.wrap,wrap_i64 (by omega) (by omega)]; omega
 have d1:zN (zZ (zj EM)) (zZ (zj EM))=false:=by rw [hS.ne]; exact decide_eq_false (by simp)
 have d2:zO PI 0=false:=by rw [hS.lt]; exact decide_eq_false (by omega)
 have d3:zO QI 0=false:=by rw [hS.lt]; exact decide_eq_false (by omega)
 obtain ⟨N,hN,hN2⟩:∃ N:Int,N=n/\zZ (zj MM)=N:=⟨_,rfl,by rw [hS.ofN,hS.len,lM]⟩
 cbv
 refine ⟨_,hS.call (hsan),?_⟩
 cbv
 refine bF (y0) ?_
 refine ⟨_,hS.call (cbal),?_⟩
 cbv
 refine ⟨_,hS.call (ct),?_⟩
 cbv
 refine ⟨_,hS.call (cdet),?_⟩
 cbv
 refine ⟨_,hS.call (csg1),?_⟩
 cbv
 refine ⟨_,hS.call (cmul1),?_⟩
 cbv
 refine ⟨_,hS.call (ctr),?_⟩
 cbv
 refine ⟨_,hS.call (cmul2),?_⟩
 cbv
 refine ⟨_,hS.call (csg2),?_⟩
 cbv
 refine bF d0 (bF d0 (bF d0 ?_))
 refine ⟨_,hS.call (cech),?_⟩
 cbv
 rw [w1]
 refine bF d1 (bF d2 (bF d3 ?_))
 clear hsan cbal ct cdet cmul1 ctr cmul2 csg1 csg2 cech
 have hN:N=(n:Int):=hN
 refine loopZR ccOk mixed hS (fun (m:Nat) s'=>∃ (i:Nat) (I:Int) (x:Abs.Rows),I=i/\m+i=n/\x=mr i (ngM n M)/\s'=liSt VR UR MM s t r p PI QI AI BI x i I) (n:=n) (s0:=liSt VR UR MM s t r p PI QI AI BI [] 0 0) (qao ?_ ?_) rfl (Nat.succ_le_succ (Nat.succ_le_succ (Nat.zero_le _))) ?_ ?_
 ·simp [leT,liSt,mkSt,vi,vb]
 ·simp [leH,liSt,mkSt]
 ·exact ⟨0,0,[],rfl,by omega,rfl,rfl⟩
 ·rintro m s1 ⟨i,I,x,hI,hm,hx,hs1⟩
  have hI:I=(i:Int):=hI
  have hxl:x.length=i:=by rw [hx,mr_len]
  by_cases hi:i < n
  ·have l1:zO I N=true:=by rw [hS.lt]; exact decide_eq_true (by omega)
   obtain ⟨U2,hU2⟩:∃ U,U=ur (ngL M i n):=⟨_,rfl⟩
   have lU:U2.length=n:=by rw [hU2,qau,ngL_len]
   obtain ⟨row2,hrw2⟩:∃ row2,row2=[Tree.lst false U2]:=⟨_,rfl⟩
   have hr1:row2.length=1:=by rw [hrw2]; rfl
   have f1:zq 0 n U2=true:=by rw [hS.fit]; exact decide_eq_true (by omega)
   have f2:zr U2 0 n=U2:=by rw [hS.part,List.drop_zero,List.take_of_length_le (by omega)]
   have u0:zr [row2] 0 1=[row2]:=by rw [hS.part]; rfl
   have u1:zq 0 1 [row2]=true:=by rw [hS.fit]; rfl
   have u2:zQ (zc (zj [row2]) 0)=true:=by rw [hS.len,hS.neq,hS.not]; rfl
   have u3:zx 1 [row2]=true:=by rw [hS.wide]; simp [hr1]
   have u4:zh i (zj [row2]) 24=true:=by rw [hS.len,hS.room]; exact decide_eq_true (by unfold capBytes; simp only [List.length_cons,List.length_nil]; omega)
   have u5:zc (zd 0 i) (zj x)=true:=by rw [hS.nadd,hS.neq,hS.len,hxl,Nat.zero_add]; exact decide_eq_true rfl
   have u6:zd i (zj [row2])=i+1:=by rw [hS.len,hS.nadd]; rfl
   obtain ⟨x2,hx2⟩:∃ r2,r2=mr (i+1) (ngM n M):=⟨_,rfl⟩
   have u7:zs x 0 [row2]=x2:=by rw [hS.ext,List.drop_zero,hx,hx2,mr_succ,hrw2,hU2]; rfl
   obtain ⟨I',hI',i1⟩:∃ I':Int,I'=((i+1:Nat):Int)/\zA .i64 (zB I 1)=I':=⟨I+1,by omega,by rw [hS.add,hS.wrap,wrap_i64 (by omega) (by omega)]⟩
   have hmm:m - 1 < m:=by omega
   have hnx:∃ (i2:Nat) (I2:Int) (x':Abs.Rows),I2=i2/\(m - 1)+i2=n/\x'=mr i2 (ngM n M)/\liSt VR UR MM s t r p PI QI AI BI x2 (i+1) I'=liSt VR UR MM s t r p PI QI AI BI x' i2 I2:=⟨i+1,I',x2,hI',by omega,hx2,rfl⟩
   obtain ⟨Ri,hRi⟩:∃ R,R=ur (M i):=⟨_,rfl⟩
   have j1:zX I=i:=by rw [hS.nat]; omega
   have j2:zk MM i=some [.lst false Ri]:=by rw [hS.nth,hMM,hRi]; exact mr_get hi
   have n0:zP 0 I=true:=by rw [hS.le]; exact decide_eq_true (by omega)
   clear hx hx2 hT
   subst hs1
   cbv
   rw [hN2]
   refine bT (l1) ?_
   apply hideP (L:=L) True
   ·intro Q' hq2 hret
    have hN:N=(n:Int):=hN
    have hI:I=(i:Int):=hI
    refine loopZR ccOk mixed hS (fun (m2:Nat) s'=>∃ (j:Nat) (J:Int) (y:Abs.Rows),J=j/\m2+j=n/\y=ur (ngL M i j)/\s'=ljSt VR UR MM s t r p PI QI AI BI x i I y j J) (n:=n) (s0:=ljSt VR UR MM s t r p PI QI AI BI x i I [] 0 0) (qao ?_ ?_) rfl (Nat.succ_le_succ (Nat.succ_le_succ (Nat.zero_le _))) ?_ ?_
    ·simp [leT,ljSt,mkSt,vi,vb]
    ·simp [leH,ljSt,mkSt]
    ·exact ⟨0,0,[],rfl,by omega,rfl,rfl⟩
    ·rintro m2 s2 ⟨j,J,y,hJ,hm2,hy,hs2⟩
     have hJ:J=(j:Int):=hJ
     have ly:y.length=j:=by rw [hy,qau,ngL_len]
     by_cases hj:j < n
     ·have l2:zO J N=true:=by rw [hS.lt]; exact decide_eq_true (by omega)
      have gM:(M i)[j]?=some ((M i).getD j 0):=by rw [List.getD_eq_getElem?_getD,List.getElem?_eq_getElem (by rw [hl i hi]; exact hj)]; rfl
      obtain ⟨s3,t3,q3,p3,hrow,_⟩:=qrow ((M i).getD j 0)
      obtain ⟨s4,t4,q4,p4,hrow4,_⟩:=qrow (-(M i).getD j 0)
      have cng:=(pneg_row (hq i hi _ (List.mem_of_getElem? gM)) (by omega)).2
      rw [hrow,hrow4] at cng
      have gR:Ri[j]?=some [.v (.bool s3),.lst false q3,.v (.bool t3),.lst false p3]:=by
       rw [hRi,<- hrow]; exact ur_get gM
      obtain ⟨cell,hcell⟩:∃ c:Abs.Rows,c=[[Tree.v (.bool s4),.lst false q4,.v (.bool t4),.lst false p4]]:=⟨_,rfl⟩
      have j3:zX J=j:=by rw [hS.nat]; omega
      have j4:zk Ri j=some [.v (.bool s3),.lst false q3,.v (.bool t3),.lst false p3]:=by rw [hS.nth]; exact gR
      have n1:zP 0 J=true:=by rw [hS.le]; exact decide_eq_true (by omega)
      have c1:zr cell 0 1=cell:=by rw [hS.part,hcell]; rfl
      have c2:zq 0 1 cell=true:=by rw [hS.fit,hcell]; rfl
      have c3:zQ (zc (zj cell) 0)=true:=by rw [hS.neq,hS.len,hS.not,hcell]; rfl
      have c4:zx 4 cell=true:=by rw [hS.wide,hcell]; rfl
      have c5:zh j (zj cell) 64=true:=by rw [hS.room,hS.len,hcell]; exact decide_eq_true (by unfold capBytes; simp; omega)
      have c6:zc (zd 0 j) (zj y)=true:=by rw [hS.nadd,hS.len,hS.neq,ly,Nat.zero_add]; exact decide_eq_true rfl
      have c7:zd j (zj cell)=j+1:=by rw [hS.nadd,hS.len,hcell]; rfl
      obtain ⟨y2,hy2⟩:∃ x2,x2=ur (ngL M i (j+1)):=⟨_,rfl⟩
      have c8:zs y 0 cell=y2:=by rw [hS.ext,List.drop_zero,hy,hy2,ngL_succ,ur_app,hrow4,hcell]
      obtain ⟨J',hJ',i2⟩:∃ I':Int,I'=((j+1:Nat):Int)/\zA .i64 (zB J 1)=I':=⟨J+1,by omega,by rw [hS.add,hS.wrap,wrap_i64 (by omega) (by omega)]⟩
      have hm3:m2 - 1 < m2:=by omega
      have hnx2:∃ (i3:Nat) (I3:Int) (x3:Abs.Rows),I3=i3/\(m2 - 1)+i3=n/\x3=ur (ngL M i i3)/\ljSt VR UR MM s t r p PI QI AI BI x i I y2 (j+1) J'=ljSt VR UR MM s t r p PI QI AI BI x i I x3 i3 I3:=⟨j+1,J',y2,hJ',by omega,hy2,rfl⟩
      clear hy hy2 hJ'
      subst hs2
      cbv
      rw [hN2]
      refine bT l2 ?_
      rw [j1,j2]
      cbv
      refine nd n0 ?_
      rw [j3,j4]
      cbv
      refine nd n1 ?_
      refine ⟨_,hS.call (cng),?_⟩
      cbv
      rw [<- hcell,c1]
      refine nd c2 (nd c3 (nd c4 (nd c5 (nd c6 ?_))))
      rw [c7,c8,i2]
      refine againR [(25,29)] (s':=ljSt VR UR MM s t r p PI QI AI BI x i I y2 (j+1) J') (k:=m2 - 1) ?_ ?_ ?_ ?_ rfl (Nat.succ_le_succ (Nat.succ_le_succ (Nat.zero_le _))) hm3 hnx2
      ·simp [leTR,ljSt,mkSt,vi,vb,AV.ren,AV.noTup,Cell.ren,renF]
      ·simp [leHR,ljSt,mkSt,Abs.look,renF,Blk.ren,Cell.ren]
      ·simp [liveR,ljSt,mkSt,renF]
      ·simp
     ·have l2:zO J N=false:=by rw [hS.lt]; exact decide_eq_false (by omega)
      obtain rfl:j=n:=by omega
      obtain rfl:y=U2:=by rw [hy,hU2]
      obtain rfl:J=N:=by omega
      clear hy
      subst hs2
      cbv
      rw [hN2]
      refine bF l2 ?_
      exact hq2 trivial
   ·intro _
    cbv
    refine nd f1 ?_
    rw [f2,<- hrw2,u0]
    refine nd (u1) ?_
    refine nd (u2) ?_
    refine nd (u3) ?_
    refine nd (u4) ?_
    refine nd (u5) ?_
    refine againR [(24,27)] (s':=liSt VR UR MM s t r p PI QI AI BI x2 (i+1) I') (k:=m - 1) ?_ ?_ ?_ ?_ rfl (Nat.succ_le_succ (Nat.succ_le_succ (Nat.zero_le _))) hmm hnx
    ·simp [leTR,liSt,mkSt,vi,vb,AV.ren,AV.noTup,Cell.ren,renF,i1,u6]
    ·simp [leHR,liSt,mkSt,Abs.look,renF,Blk.ren,u7,Cell.ren]
    ·simp [liveR,liSt,mkSt,renF]
    ·simp
  ·have l1:zO I N=false:=by rw [hS.lt]; exact decide_eq_false (by omega)
   have hrT:x=T:=by rw [hx,hT,show i=n by omega]
   have f1:zq 0 i x=true:=by rw [hS.fit]; exact decide_eq_true (by omega)
   have f2:zr x 0 i=x:=by rw [hS.part,List.drop_zero,List.take_of_length_le (by omega)]
   clear hx hT
   subst hrT
   subst hs1
   cbv
   rw [hN2]
   refine bF l1 (nd f1 ?_)
   rw [f2]
   have e1:∀ X,zM X X=true:=fun X=>by rw [hS.eq]; exact decide_eq_true rfl
   refine ⟨_,hS.call (csg3),?_⟩
   cbv
   refine bT (e1 0) (bT (e1 QI) (bT (e1 PI) ?_))
   refine ⟨_,hS.call (csign),?_⟩
   cbv
   rcases hcase with h0 | ⟨h0,h1,h2⟩
   ·refine bT (by rw [hS.eq]; exact decide_eq_true h0) ?_
    exact hF _ (ResLe.refl _)
   ·refine bF (by rw [hS.eq]; exact decide_eq_false h0) ?_
    refine bT (by rw [hS.eq]; exact decide_eq_true h1) (bT (by rw [hS.eq]; exact decide_eq_true h2) ?_)
    exact hF _ (ResLe.refl _)
theorem bf_sym {n:Nat} {M:Nat->RV} (h:∀ i,i < n->∀ j,j < n->M i j=M j i) (u v:RV):bf n M u v=bf n M v u:=by
 unfold bf mv dot
 rw [qab n (g:=fun a=>sumN n fun b=>u a*(M a b*v b)) fun a _=>(qa4 _ _ _).symm,sumN_swap]
 refine qab n fun b hb=>?_
 rw [<- qa4]
 exact qab n fun a ha=>by rw [h a ha b hb]; grind
theorem CgE.congrL {n:Nat} {M N G:Nat->RV} (h:CgE n M G) (e:∀ i,i < n->∀ j,j < n->M i j=N i j):CgE n N G:=(h.symm.congr e).symm
theorem cnt_pn (n:Nat) (e:RV):cnt n (fun i=>decide (0 < e i))+cnt n (fun i=>decide (e i < 0))=cnt n fun i=>!decide (e i=0):=by
 induction n with
 | zero=>rfl
 | succ n ih=>
  rw [cnt_succ,cnt_succ,cnt_succ,<- ih]
  by_cases h1:0 < e n
  ·rw [if_pos (by simpa using h1),if_neg (by simp; grind),if_pos (by simp; grind)]; omega
  ·by_cases h2:e n < 0
   ·rw [if_neg (by simpa using h1),if_pos (by simpa using h2),if_pos (by simp; grind)]; omega
   ·rw [if_neg (by simpa using h1),if_neg (by simpa using h2),if_neg (by simp; grind)]; omega
theorem cnt_le (n:Nat) (p:Nat->Bool):cnt n p<=n:=by have:=cnt_not n p; omega
theorem mxi_call (hsan:ACall Tryz.prog 11 [] ⟨[.val (tb true)],[]⟩) (V U:List Int) (hV:∀ v ∈ V,-128<=v/\v < 128) (hVl:V.length < 9223372036854775808) (hU:∀ v ∈ U,-128<=v/\v < 128) (hUl:U.length < 9223372036854775808) (a:Nat) (ha:a < 256) :
  ACall Tryz.prog 7 [.val (.agg [.lst false (W .i8 V),.lst false (W .i8 U)]),.val (ti .u8 (a:Int))] ⟨[.val (tb true)],[none,none]⟩:=by
 obtain ⟨n,hn⟩:∃ n,n=a % 5:=⟨_,rfl⟩
 have hn4:n<=4:=by omega
 have cbal:=rbal_call V hV hVl a ha hn
 have ct:=rmadeM_call U hU hUl a a ha ha
 rw [<- hn] at ct
 obtain ⟨M,hM⟩:∃ M,M=balR (rawM V n) n n 0:=⟨_,rfl⟩
 obtain ⟨T,hT⟩:∃ M,M=rawM U n:=⟨_,rfl⟩
 rw [<- hM] at cbal
 rw [<- hT] at ct
 have hl:∀ i,i < n->(M i).length=n:=fun i _=>by rw [hM]; exact balR_len _ _ _ _ _
 have hq:∀ i,i < n->∀ q ∈ M i,Qs q 8:=fun i hi q hq=>by
  rw [hM] at hq
  obtain ⟨x,hx,rfl⟩:=List.mem_map.1 hq
  have hx:=List.mem_range.1 hx
  have g:∀ i j,j < n->Qs ((rawM V n i).getD j 0) 8:=fun i j hj=>rawRow_qs V (i*n) n _ (by
   rw [List.getD_eq_getElem?_getD,List.getElem?_eq_getElem (by rw [rawM,rawRow_len]; exact hj)]; exact List.getElem_mem _)
  split
  ·exact g x i hi
  ·exact g i x hx
 have hsym:∀ i,i < n->∀ j,j < n->rv (M i) j=rv (M j) i:=fun i hi j hj=>by
  rw [hM]
  show (balR _ n n 0 i).getD j 0=(balR _ n n 0 j).getD i 0
  rw [qbt hj,qbt hi]
  rcases Nat.lt_trichotomy i j with h | h | h
  ·rw [if_neg (by omega),if_pos (by omega)]
  ·rw [h]
  ·rw [if_pos (by omega),if_neg (by omega)]
 have hlT:∀ i,i < n->(T i).length=n:=fun i hi=>by rw [hT,rawM,rawRow_len]
 have hqT:∀ i,i < n->∀ q ∈ T i,Qs q 8:=fun i hi=>by rw [hT,rawM]; exact rawRow_qs _ _ _
 clear hM hT
 have sK:∀ K,K<=500->sgK n K<=100000000:=fun K hK=>by
  obtain rfl | rfl | rfl | rfl | rfl:n=0 ∨ n=1 ∨ n=2 ∨ n=3 ∨ n=4:=by omega
  all_goals simp only [sgK]; omega
 have cdet:=mdet_call n hn4 T 8 hlT (by omega) (by omega) hqT
 have hdt:=dtv_all n 0 T 1 (by omega) (DtI.start hlT)
 have hall:=fun R' (h:DtI n n T R')=>h.all
 obtain ⟨d,hd⟩:∃ d,d=dtv n n 0 T 1:=⟨_,rfl⟩
 rw [<- hd] at cdet hdt
 obtain ⟨sg,hsg,csign⟩:=qba d
 obtain ⟨s,t,r,p,hrow,_⟩:=qrow d
 rw [hrow] at cdet csign
 obtain ⟨e1,P,Q,cg1,hP,hQ,run1⟩:=sg_ex hn4 n 0 M (fun _=>0) 8 (fun i=>ur (M i)) (by omega) (SgI.start hl hsym _) hq (sK 8 (by omega)) (fun _ _=>rfl)
 have csg1:=msig_walk n hn4 M 8 (by omega) hl hq hsym run1
 have cech:=mech_call n hn4 M n 8 (by omega) hl (by omega) (by omega) hq
 have lE:(mr (rdIt n M n).k (rdIt n M n).R).length=P+Q:=by
  rw [mr_len,hP,hQ,cnt_pn,<- syl_rank cg1 (rdIt_ok hl n)]
 have lN:∀ i,i < n->(ngM n M i).length=n:=fun i _=>ngL_len _ _ _
 have rN:∀ i j,j < n->rv (ngM n M i) j=-rv (M i) j:=fun i j hj=>by
  unfold ngM ngL rv
  rw [List.getD_eq_getElem?_getD,List.getElem?_map,List.getElem?_range hj]; rfl
 have qN:∀ i,i < n->∀ q ∈ ngM n M i,Qs q 8:=fun i hi q hh=>by
  obtain ⟨x,hx,rfl⟩:=List.mem_map.1 hh
  exact (hq i hi _ (by rw [List.getD_eq_getElem?_getD,List.getElem?_eq_getElem (by rw [hl i hi]; exact List.mem_range.1 hx)]; exact List.getElem_mem _)).neg
 have symN:∀ i,i < n->∀ j,j < n->rv (ngM n M i) j=rv (ngM n M j) i:=fun i hi j hj=>by rw [rN i j hj,rN j i hi,hsym i hi j hj]
 obtain ⟨e3,P3,Q3,cg3,hP3,hQ3,run3⟩:=sg_ex hn4 n 0 (ngM n M) (fun _=>0) 8 (fun i=>ur (ngM n M i)) (by omega) (SgI.start lN symN _) qN (sK 8 (by omega)) (fun _ _=>rfl)
 have csg3:=msig_walk n hn4 (ngM n M) 8 (by omega) lN qN symN run3
 have cgn:=CgE.congrL cg1.neg (N:=fun i=>rv (ngM n M i)) fun i hi j hj=>(rN i j hj).symm
 have nn:∀ f:RV,cnt n (fun i=>decide (0 < -f i))=cnt n fun i=>decide (f i < 0):=fun f=>cnt_ext fun i _=>by
  have:(0 < -f i) ↔ f i < 0:=by constructor <;> intro <;> grind
  simp [this]
 have nn2:∀ f:RV,cnt n (fun i=>decide (-f i < 0))=cnt n fun i=>decide (0 < f i):=fun f=>cnt_ext fun i _=>by
  have:(-f i < 0) ↔ 0 < f i:=by constructor <;> intro <;> grind
  simp [this]
 have hPQ:P3=Q:=by rw [hP3,hQ,<- nn e1]; exact syl_pos cg3 cgn
 have hQP:Q3=P:=by rw [hQ3,hP,<- nn2 e1]; exact syl_neg cg3 cgn
 rw [hPQ,hQP] at csg3
 have cmul1:=lmul_call n hn4 T M n n 8 8 (by omega) (by omega) hl (fun h=>h) hlT hqT hq (by omega)
 have l1:=fun i (_:i < n)=>mmM_len T M n i
 have q1:∀ i,i < n->∀ q ∈ mmM T M n i,Qs q 100:=fun i hi q h=>(mmM_qs (n:=n) (w:=n) hl hlT hqT hq i hi q h).mono (by
  have:=Nat.mul_le_mul_right (8+8+1) hn4
  omega)
 have ctr:=rtrans_call n (by omega) T hlT
 have lt:∀ i,i < n->(trM n T i).length=n:=fun i _=>trL_len _ _ _
 have qt:∀ i,i < n->∀ q ∈ trM n T i,Qs q 8:=fun i hi q hh=>by
  obtain ⟨x,hx,rfl⟩:=List.mem_map.1 hh
  have hx:=List.mem_range.1 hx
  exact hqT x hx _ (by rw [List.getD_eq_getElem?_getD,List.getElem?_eq_getElem (by rw [hlT x hx]; exact hi)]; exact List.getElem_mem _)
 have rt:∀ i j,j < n->rv (trM n T i) j=rv (T j) i:=fun i j hj=>by
  unfold trM trL rv
  rw [List.getD_eq_getElem?_getD,List.getElem?_map,List.getElem?_range hj]; rfl
 have cmul2:=lmul_call n hn4 (mmM T M n) (trM n T) n n 100 8 (by omega) (by omega) lt (fun h=>h) l1 q1 qt (by omega)
 obtain ⟨C,hC⟩:∃ C,C=mmM (mmM T M n) (trM n T) n:=⟨_,rfl⟩
 have rC:∀ i,i < n->∀ j,j < n->rv (C i) j=bf n (fun i=>rv (M i)) (rv (T i)) (rv (T j)):=fun i hi j hj=>by
  rw [hC,mmM_rv (l1 i hi) lt j]
  rw [qab n (g:=fun l=>(sumN n fun x=>rv (T i) x*rv (M x) l)*rv (T j) l) fun l hl'=>by rw [mmM_rv (hlT i hi) hl l,rt l j hj]]
  exact prod_assoc (fun i=>rv (T i)) (fun i=>rv (M i)) (fun l j=>rv (T j) l) i j
 have lC:∀ i,i < n->(C i).length=n:=fun i _=>by rw [hC]; exact mmM_len _ _ _ _
 have qC:∀ i,i < n->∀ q ∈ C i,Qs q 500:=fun i hi q h=>by
  rw [hC] at h
  refine (mmM_qs (n:=n) (w:=n) lt l1 q1 qt i hi q h).mono ?_
  have:=Nat.mul_le_mul_right (100+8+1) hn4
  omega
 have symC:∀ i,i < n->∀ j,j < n->rv (C i) j=rv (C j) i:=fun i hi j hj=>by rw [rC i hi j hj,rC j hj i hi]; exact bf_sym hsym _ _
 rw [<- hC] at cmul2
 obtain ⟨e2,A,B2,cg2,hA,hB2,run2⟩:=sg_ex hn4 n 0 C (fun _=>0) 500 (fun i=>ur (C i)) (by omega) (SgI.start lC symC _) qC (sK 500 (by omega)) (fun _ _=>rfl)
 have csg2:=msig_walk n hn4 C 500 (by omega) lC qC symC run2
 have p4:=cnt_le n fun i=>decide (0 < e1 i)
 have q4:=cnt_le n fun i=>decide (e1 i < 0)
 refine mxi_walk hsan V U a hn4 (B:=8) (by omega) hl hq (by omega) (by omega) cbal ct cdet csg1 cmul1 ctr cmul2 csg2 cech lE csg3 csign ?_
 by_cases h0:sg=0
 ·exact .inl h0
 ·refine .inr ⟨h0,?_⟩
  obtain ⟨R',hR'⟩:=hdt fun h=>h0 (hsg.2 h)
  obtain ⟨hk,hreg,hsing⟩:=inv_facts hlT rfl rfl rfl
  by_cases hp:n ≠ 0->(rdIt n (exI n T) (n+n)).p (n - 1)=n - 1
  ·have hinv:=hreg hp
   have cgp:=cg_prod (M:=fun i=>rv (M i)) (T:=fun i=>rv (T i)) (B:=fun l=>rv (((rdIt n (exI n T) (n+n)).R l).drop n)) (N:=fun i=>rv (C i)) (fun i hi y hy=>(hinv i hi y hy).1) (fun i hi y hy=>(hinv i hi y hy).2) rC
   have cg:=cgp.trans cg2
   exact ⟨by rw [hA,hP]; exact syl_pos cg cg1,by rw [hB2,hQ]; exact syl_neg cg cg1⟩
  ·exfalso
   have hn0:n ≠ 0:=fun h=>hp fun h'=>absurd h h'
   exact hsing hn0 (fun h=>hp fun _=>h) (hall R' hR')
theorem mxi_row (hsan:ACall Tryz.prog 11 [] ⟨[.val (tb true)],[]⟩) (tss:List (List Tree)) (h:okAll [.arr 2 raw11,.int .u8] tss) :
  ACall Tryz.prog 7 ((tvs [.arr 2 raw11,.int .u8] tss).map .val) ⟨[.val (tb true)],[none,none]⟩:=by
 obtain ⟨_,_,rfl,⟨_,_,rfl,⟨_,_,rfl,⟨cp,rows,rfl,hlen,hr⟩,rfl⟩,_,_,rfl,⟨_,_,rfl,⟨cq,rows2,rfl,hlen2,hr2⟩,rfl⟩,rfl⟩,_,_,rfl,⟨a,rfl,ha⟩,rfl⟩:=h
 obtain ⟨V,rfl,hV⟩:=ints8_ok rows hr
 obtain ⟨U,rfl,hU⟩:=ints8_ok rows2 hr2
 have ha:=bd_u8 ha
 rw [qal] at hlen hlen2
 have c:=mxi_call hsan V U hV (by omega) hU (by omega) a.toNat (by omega)
 rw [Int.toNat_of_nonneg ha.1] at c
 have ht:TsLe [.lst cp (W .i8 V),.lst cq (W .i8 U)] [.lst false (W .i8 V),.lst false (W .i8 U)]:=⟨.drop _ _,.drop _ _,trivial⟩
 have hle:ArgsLe [.val (.agg [.lst cp (W .i8 V),.lst cq (W .i8 U)]),.val (ti .u8 a)] [.val (.agg [.lst false (W .i8 V),.lst false (W .i8 U)]),.val (ti .u8 a)]:=⟨ht,TLe.refl _,trivial⟩
 exact ACall.weak hle (ResLe.refl _) c
end Go.Proofs.YtjfmkcmepdedaaaGreat
end
section
namespace Go.Abs
mutual
def eqT:Tree->Tree->Bool
 | .v x,.v y=>match x,y with
  | .int k a,.int k' b=>decide (k=k') && decide (a=b)
  | .bool a,.bool b=>decide (a=b)
  | .string a,.string b=>decide (a.data.toList=b.data.toList)
  | .func (.func f) ⟨[]⟩ ⟨[]⟩,.func (.func g) ⟨[]⟩ ⟨[]⟩=>decide (f=g)
  | _,_=>false
 | .lst c l,.lst c' l'=>decide (c=c') && eqRR l l'
 | _,_=>false
def eqTs:List Tree->List Tree->Bool
 | [],[]=>true
 | x :: xs,y :: ys=>eqT x y && eqTs xs ys
 | _,_=>false
def eqRR:List (List Tree)->List (List Tree)->Bool
 | [],[]=>true
 | x :: xs,y :: ys=>eqTs x y && eqRR xs ys
 | _,_=>false
end
mutual
theorem eqT_eq:∀ {x y:Tree},eqT x y=true->x=y
 | .v x,.v y,h=>by
  unfold eqT at h
  split at h
  ·simp only [Bool.and_eq_true,decide_eq_true_eq] at h; rw [h.1,h.2]
  ·rw [of_decide_eq_true h]
  ·rename_i a b
   have:=of_decide_eq_true h
   have e:a=b:=by
    cases a with | mk da=>cases b with | mk db=>exact congrArg ByteArray.mk (Array.ext' this)
   rw [e]
  ·rw [of_decide_eq_true h]
  ·cases h
 | .lst c l,.lst c' l',h=>by
  unfold eqT at h
  simp only [Bool.and_eq_true,decide_eq_true_eq] at h
  rw [h.1,eqRR_eq h.2]
 | .v _,.lst _ _,h=>by unfold eqT at h; cases h
 | .lst _ _,.v _,h=>by unfold eqT at h; cases h
theorem eqTs_eq:∀ {x y:List Tree},eqTs x y=true->x=y
 | [],[],_=>rfl
 | x :: xs,y :: ys,h=>by
  unfold eqTs at h
  simp only [Bool.and_eq_true] at h
  rw [eqT_eq h.1,eqTs_eq h.2]
 | [],_ :: _,h=>by unfold eqTs at h; cases h
 | _ :: _,[],h=>by unfold eqTs at h; cases h
theorem eqRR_eq:∀ {x y:List (List Tree)},eqRR x y=true->x=y
 | [],[],_=>rfl
 | x :: xs,y :: ys,h=>by
  unfold eqRR at h
  simp only [Bool.and_eq_true] at h
  rw [eqTs_eq h.1,eqRR_eq h.2]
 | [],_ :: _,h=>by unfold eqRR at h; cases h
 | _ :: _,[],h=>by unfold eqRR at h; cases h
end
def eqArg:Arg->Arg->Bool
 | .val (.c x),.val (.c y)=>eqT x y
 | .val (.agg x),.val (.agg y)=>eqTs x y
 | .bor s x,.bor s' y=>decide (s=s') && eqRR x y
 | .own s x,.own s' y=>decide (s=s') && eqRR x y
 | .ref x,.ref y=>eqTs x y
 | .gh x,.gh y=>eqTs x y
 | .clo f x,.clo g y=>decide (f=g) && decide (x=y)
 | _,_=>false
theorem eqArg_eq {x y:Arg} (h:eqArg x y=true):x=y:=by
 unfold eqArg at h
 split at h
 ·rw [eqT_eq h]
 ·rw [eqTs_eq h]
 ·simp only [Bool.and_eq_true,decide_eq_true_eq] at h; rw [h.1,eqRR_eq h.2]
 ·simp only [Bool.and_eq_true,decide_eq_true_eq] at h; rw [h.1,eqRR_eq h.2]
 ·rw [eqTs_eq h]
 ·rw [eqTs_eq h]
 ·simp only [Bool.and_eq_true,decide_eq_true_eq] at h; rw [h.1,h.2]
 ·cases h
def eqArgs:List Arg->List Arg->Bool
 | [],[]=>true
 | x :: xs,y :: ys=>eqArg x y && eqArgs xs ys
 | _,_=>false
theorem eqArgs_eq:∀ {x y:List Arg},eqArgs x y=true->x=y
 | [],[],_=>rfl
 | x :: xs,y :: ys,h=>by
  unfold eqArgs at h
  simp only [Bool.and_eq_true] at h
  rw [eqArg_eq h.1,eqArgs_eq h.2]
 | [],_ :: _,h=>by cases h
 | _ :: _,[],h=>by cases h
def eqL3 (l m:List (Nat × Nat × Nat)):Bool:=decide (l=m)
def eqC:Cell->Cell->Bool
 | .t x,.t y=>eqT x y
 | .ptr b r c,.ptr b' r' c'=>decide (b=b') && decide (r=r') && decide (c=c')
 | .tp l c,.tp l' c'=>eqTs l l' && decide (c=c')
 | .sl b o n c,.sl b' o' n' c'=>decide (b=b') && decide (o=o') && decide (n=n') && decide (c=c')
 | .mp b,.mp b'=>decide (b=b')
 | .clo f l,.clo g m=>decide (f=g) && eqL3 l m
 | _,_=>false
def eqCs:List Cell->List Cell->Bool
 | [],[]=>true
 | x :: xs,y :: ys=>eqC x y && eqCs xs ys
 | _,_=>false
def eqAV:AV->AV->Bool
 | .c x,.c y=>eqC x y
 | .agg x,.agg y=>eqCs x y
 | .junk,.junk=>true
 | _,_=>false
def eqAVs:List AV->List AV->Bool
 | [],[]=>true
 | x :: xs,y :: ys=>eqAV x y && eqAVs xs ys
 | _,_=>false
def eqB:Option Blk->Option Blk->Bool
 | none,none=>true
 | some (.var x),some (.var y)=>eqCs x y
 | some (.rows s l g z),some (.rows s' l' g' z')=>decide (s=s') && eqRR l l' && decide (g=g') && decide (z=z')
 | some (.old s l),some (.old s' l')=>decide (s=s') && eqRR l l'
 | _,_=>false
def eqH:Heap->Heap->Bool
 | [],[]=>true
 | x :: xs,y :: ys=>eqB x y && eqH xs ys
 | _,_=>false
theorem eqC_eq {x y:Cell} (h:eqC x y=true):x=y:=by
 unfold eqC at h
 split at h
 ·rw [eqT_eq h]
 ·simp only [Bool.and_eq_true,decide_eq_true_eq] at h; obtain ⟨⟨rfl,rfl⟩,rfl⟩:=h; rfl
 ·simp only [Bool.and_eq_true,decide_eq_true_eq] at h; rw [eqTs_eq h.1,h.2]
 ·simp only [Bool.and_eq_true,decide_eq_true_eq] at h; obtain ⟨⟨⟨rfl,rfl⟩,rfl⟩,rfl⟩:=h; rfl
 ·rw [of_decide_eq_true h]
 ·simp only [Bool.and_eq_true,decide_eq_true_eq,eqL3] at h; rw [h.1,h.2]
 ·cases h
theorem eqCs_eq:∀ {x y:List Cell},eqCs x y=true->x=y
 | [],[],_=>rfl
 | x :: xs,y :: ys,h=>by
  unfold eqCs at h
  simp only [Bool.and_eq_true] at h
  rw [eqC_eq h.1,eqCs_eq h.2]
 | [],_ :: _,h=>by cases h
 | _ :: _,[],h=>by cases h
theorem eqAV_eq {x y:AV} (h:eqAV x y=true):x=y:=by
 unfold eqAV at h
 split at h
 ·rw [eqC_eq h]
 ·rw [eqCs_eq h]
 ·rfl
 ·cases h
theorem eqAVs_eq:∀ {x y:List AV},eqAVs x y=true->x=y
 | [],[],_=>rfl
 | x :: xs,y :: ys,h=>by
  unfold eqAVs at h
  simp only [Bool.and_eq_true] at h
  rw [eqAV_eq h.1,eqAVs_eq h.2]
 | [],_ :: _,h=>by cases h
 | _ :: _,[],h=>by cases h
theorem eqB_eq {x y:Option Blk} (h:eqB x y=true):x=y:=by
 unfold eqB at h
 split at h
 ·rfl
 ·rw [eqCs_eq h]
 ·simp only [Bool.and_eq_true,decide_eq_true_eq] at h; obtain ⟨⟨⟨rfl,h2⟩,rfl⟩,rfl⟩:=h; rw [eqRR_eq h2]
 ·simp only [Bool.and_eq_true,decide_eq_true_eq] at h; obtain ⟨rfl,h2⟩:=h; rw [eqRR_eq h2]
 ·cases h
theorem eqH_eq:∀ {x y:Heap},eqH x y=true->x=y
 | [],[],_=>rfl
 | x :: xs,y :: ys,h=>by
  unfold eqH at h
  simp only [Bool.and_eq_true] at h
  rw [eqB_eq h.1,eqH_eq h.2]
 | [],_ :: _,h=>by cases h
 | _ :: _,[],h=>by cases h
def eqAsk:Ask->Ask->Bool
 | .a x,.a y=>eqArgs x y
 | .h ⟨t,m⟩,.h ⟨t',m'⟩=>eqAVs t t' && eqH m m'
 | _,_=>false
theorem eqAsk_eq {x y:Ask} (h:eqAsk x y=true):x=y:=by
 unfold eqAsk at h
 split at h
 ·rw [eqArgs_eq h]
 ·simp only [Bool.and_eq_true] at h; rw [eqAVs_eq h.1,eqH_eq h.2]
 ·cases h
inductive Known (P:Program):List (FuncId × Ask × Ans)->Prop where
 | nil:Known P []
 | cons {f:FuncId} {x:Ask} {y:Ans} {l:List (FuncId × Ask × Ans)} (h:Shows P f x y) (t:Known P l):Known P ((f,x,y) :: l)
def findK:List (FuncId × Ask × Ans)->FuncId->Ask->Option Ans
 | [],_,_=>none
 | (f,x,r) :: l,g,y=>match Nat.beq f g with
  | true=>match eqAsk x y with
   | true=>some r
   | false=>findK l g y
  | false=>findK l g y
theorem Known.find {P:Program} {l:List (FuncId × Ask × Ans)} (h:Known P l):∀ f x y,findK l f x=some y->Shows P f x y:=by
 induction h with
 | nil=>intro f x y h; cases h
 | cons h t ih=>
  rename_i f x r l
  intro g y res hr
  unfold findK at hr
  split at hr
  ·rename_i h1
   split at hr
   ·rename_i h2
    cases hr
    obtain rfl:=Nat.eq_of_beq_eq_true h1
    obtain rfl:=eqAsk_eq h2
    exact h
   ·exact ih _ _ _ hr
  ·exact ih _ _ _ hr
theorem execBody_sound {P:Program} {C:Cfg} {om:FuncId->List Mode} (hC:CfgOk P C) (hmix:P.follows .mixedOrders=true) {l:List (FuncId × Ask × Ans)} (hl:Known P l) {n:Nat} {f:FuncId} {x:Ask} {y:Ans}
  (h:execAsk P C om (findK l) n f x=some y):Shows P f x y:=execAsk_sound hC hmix hl.find h
end Go.Abs
end
section
namespace Go.Proofs.YtjfmkcmepdedaaaGreat.Mem
open Go Go.Abs Go.Proofs
def u (n:Int):List Tree:=[.v (.int .u32 n)]
def n64 (n:Int):Tree:=.v (.int .i64 n)
def w64 (n:Int):Tree:=.v (.int .u64 n)
def bT:Tree:=.v (.bool true)
def bF:Tree:=.v (.bool false)
def lF (l:List (List Tree)):Tree:=.lst false l
def lT (l:List (List Tree)):Tree:=.lst true l
def l1:Tree:=.lst false [u 1]
def o0:List Tree:=[bF,lF [],bF,l1]
def o1:List Tree:=[bF,l1,bF,l1]
def o2:List Tree:=[bT,l1,bF,l1]
def w (n:Int):List Tree:=[bF,lF [u n],bF,l1]
def v (n:Int):List Tree:=[bT,lF [u n],bF,l1]
abbrev AC (f:FuncId) (a:List Arg) (r:List RC) (o:List (Option Blk)):Prop:=Shows Tryz.prog f (.a a) (.a ⟨r,o⟩)
abbrev x (t:Tree):Arg:=.val (.c t)
abbrev y (t:Tree):RC:=.val (.c t)
abbrev g (l:List Tree):Arg:=.val (.agg l)
abbrev h (l:List Tree):RC:=.val (.agg l)
abbrev n1:List (Option Blk):=[none]
abbrev n2:List (Option Blk):=[none,none]
abbrev n4:List (Option Blk):=[none,none,none,none]
section
variable {P:Program} {l:List (FuncId × Abs.Ask × Abs.Ans)} {f1 f2 f3 f4:FuncId} {a1 a2 a3 a4:Abs.Ask} {r1 r2 r3 r4:Abs.Ans}
theorem c1 (h1:Shows P f1 a1 r1):Known P [(f1,a1,r1)]:=.cons h1 .nil
theorem c2 (h1:Shows P f1 a1 r1) (h2:Shows P f2 a2 r2):Known P [(f1,a1,r1),(f2,a2,r2)]:=.cons h1 (c1 h2)
theorem c3 (h1:Shows P f1 a1 r1) (h2:Shows P f2 a2 r2) (h3:Shows P f3 a3 r3):Known P [(f1,a1,r1),(f2,a2,r2),(f3,a3,r3)]:=.cons h1 (c2 h2 h3)
theorem c4 (h1:Shows P f1 a1 r1) (h2:Shows P f2 a2 r2) (h3:Shows P f3 a3 r3) (h4:Shows P f4 a4 r4):Known P [(f1,a1,r1),(f2,a2,r2),(f3,a3,r3),(f4,a4,r4)]:=.cons h1 (c3 h2 h3 h4)
theorem d4 (h1:Shows P f1 a1 r1) (h2:Shows P f2 a2 r2) (h3:Shows P f3 a3 r3) (h4:Shows P f4 a4 r4) (t:Known P l):Known P ((f1,a1,r1) :: (f2,a2,r2) :: (f3,a3,r3) :: (f4,a4,r4) :: l):=.cons h1 (.cons h2 (.cons h3 (.cons h4 t)))
end
noncomputable def om:FuncId->List Abs.Mode:=omOf Tryz.prog [(60,[.own 4]),(88,[.own 4]),(56,[.own 4]),(107,[.own 4]),(110,[.own 4]),(115,[.own 4]),(74,[.own 4])]
theorem ex {l:List (FuncId × Abs.Ask × Abs.Ans)} {f:FuncId} {x:Abs.Ask} {y:Abs.Ans} (hl:Known Tryz.prog l) (h:execAsk Tryz.prog CC om (findK l) 100000 f x=some y):Shows Tryz.prog f x y:=execBody_sound ccOk mixed hl h
theorem k0:AC 143 [x (lF [u 1,u 0])] [y l1] n1:=ex .nil (by kernel_rfl)
theorem k1:AC 129 [x (w64 1)] [y l1] n1:=ex (c1 k0) (by kernel_rfl)
theorem k2:AC 143 [x l1] [y l1] n1:=ex .nil (by kernel_rfl)
theorem k3:AC 128 [x bF,x l1] [h [bF,l1]] n2:=ex (c1 k2) (by kernel_rfl)
theorem k4:AC 101 [x (n64 1)] [h [bF,l1]] n1:=ex (c2 k1 k3) (by kernel_rfl)
theorem k5:AC 53 [x (n64 1)] [h o1] n1:=ex (c1 k4) (by kernel_rfl)
theorem k6:AC 143 [x (lF [u 2,u 0])] [y (lF [u 2])] n1:=ex .nil (by kernel_rfl)
theorem k7:AC 129 [x (w64 2)] [y (lF [u 2])] n1:=ex (c1 k6) (by kernel_rfl)
theorem k8:AC 143 [x (lF [u 2])] [y (lF [u 2])] n1:=ex .nil (by kernel_rfl)
theorem k9:AC 128 [x bF,x (lF [u 2])] [h [bF,lF [u 2]]] n2:=ex (c1 k8) (by kernel_rfl)
theorem k10:AC 101 [x (n64 2)] [h [bF,lF [u 2]]] n1:=ex (c2 k7 k9) (by kernel_rfl)
theorem k11:AC 53 [x (n64 2)] [h (w 2)] n1:=ex (c2 k10 k4) (by kernel_rfl)
theorem k12:AC 143 [x (lF [u 3,u 0])] [y (lF [u 3])] n1:=ex .nil (by kernel_rfl)
theorem k13:AC 129 [x (w64 3)] [y (lF [u 3])] n1:=ex (c1 k12) (by kernel_rfl)
theorem k14:AC 143 [x (lF [u 3])] [y (lF [u 3])] n1:=ex .nil (by kernel_rfl)
theorem k15:AC 128 [x bF,x (lF [u 3])] [h [bF,lF [u 3]]] n2:=ex (c1 k14) (by kernel_rfl)
theorem k16:AC 101 [x (n64 3)] [h [bF,lF [u 3]]] n1:=ex (c2 k13 k15) (by kernel_rfl)
theorem k17:AC 53 [x (n64 3)] [h (w 3)] n1:=ex (c2 k16 k4) (by kernel_rfl)
theorem k18:AC 143 [x (lF [u 4,u 0])] [y (lF [u 4])] n1:=ex .nil (by kernel_rfl)
theorem k19:AC 129 [x (w64 4)] [y (lF [u 4])] n1:=ex (c1 k18) (by kernel_rfl)
theorem k20:AC 143 [x (lF [u 4])] [y (lF [u 4])] n1:=ex .nil (by kernel_rfl)
theorem k21:AC 128 [x bF,x (lF [u 4])] [h [bF,lF [u 4]]] n2:=ex (c1 k20) (by kernel_rfl)
theorem k22:AC 101 [x (n64 4)] [h [bF,lF [u 4]]] n1:=ex (c2 k19 k21) (by kernel_rfl)
theorem k23:AC 53 [x (n64 4)] [h (w 4)] n1:=ex (c2 k22 k4) (by kernel_rfl)
theorem k24:AC 50 [x (lF [[n64 1],[n64 2],[n64 3],[n64 4]])] [y (lF [[lF [o1,(w 2)]],[lF [(w 3),(w 4)]]])] n1:=ex (c4 k5 k11 k17 k23) (by kernel_rfl)
theorem k25:AC 143 [x (lF [u 5,u 0])] [y (lF [u 5])] n1:=ex .nil (by kernel_rfl)
theorem k26:AC 129 [x (w64 5)] [y (lF [u 5])] n1:=ex (c1 k25) (by kernel_rfl)
theorem k27:AC 143 [x (lF [u 5])] [y (lF [u 5])] n1:=ex .nil (by kernel_rfl)
theorem k28:AC 128 [x bF,x (lF [u 5])] [h [bF,lF [u 5]]] n2:=ex (c1 k27) (by kernel_rfl)
theorem k29:AC 101 [x (n64 5)] [h [bF,lF [u 5]]] n1:=ex (c2 k26 k28) (by kernel_rfl)
theorem k30:AC 53 [x (n64 5)] [h (w 5)] n1:=ex (c2 k29 k4) (by kernel_rfl)
theorem k31:AC 143 [x (lF [u 6,u 0])] [y (lF [u 6])] n1:=ex .nil (by kernel_rfl)
theorem k32:AC 129 [x (w64 6)] [y (lF [u 6])] n1:=ex (c1 k31) (by kernel_rfl)
theorem k33:AC 143 [x (lF [u 6])] [y (lF [u 6])] n1:=ex .nil (by kernel_rfl)
theorem k34:AC 128 [x bF,x (lF [u 6])] [h [bF,lF [u 6]]] n2:=ex (c1 k33) (by kernel_rfl)
theorem k35:AC 101 [x (n64 6)] [h [bF,lF [u 6]]] n1:=ex (c2 k32 k34) (by kernel_rfl)
theorem k36:AC 53 [x (n64 6)] [h (w 6)] n1:=ex (c2 k35 k4) (by kernel_rfl)
theorem k37:AC 51 [x (lF [[n64 5],[n64 6]])] [y (lF [(w 5),(w 6)])] n1:=ex (c2 k30 k36) (by kernel_rfl)
theorem k38:Shows Tryz.prog 80 (.h ⟨[.c (.t (lF [[lF [o1,(w 2)]],[lF [(w 3),(w 4)]]]))],[]⟩) (.h ⟨[.c (.t (n64 2))],[]⟩):=ex (.nil) (by kernel_rfl)
theorem k39:AC 56 [x (lF [o1,(w 2)])] [.own 4 [o1,(w 2)]] n1:=ex .nil (by kernel_rfl)
theorem k40:AC 56 [x (lF [(w 3),(w 4)])] [.own 4 [(w 3),(w 4)]] n1:=ex .nil (by kernel_rfl)
theorem k41:AC 56 [.bor 4 [o1,(w 2),(w 5)]] [.own 4 [o1,(w 2),(w 5)]] [some (.rows 4 [o1,(w 2),(w 5)] false false)]:=ex .nil (by kernel_rfl)
theorem k42:AC 56 [.bor 4 [(w 3),(w 4),(w 6)]] [.own 4 [(w 3),(w 4),(w 6)]] [some (.rows 4 [(w 3),(w 4),(w 6)] false false)]:=ex .nil (by kernel_rfl)
theorem k43:Shows Tryz.prog 55 (.h ⟨[.c (.sl 0 0 2 false),.c (.t (.v (.func (.func 56) #[] #[])))],[some (.var [.sl 1 0 3 false,.sl 2 0 3 false]),some (.rows 4 [o1,(w 2),(w 5)] true false),some (.rows 4 [(w 3),(w 4),(w 6)] true false)]⟩) (.h ⟨[.c (.sl 3 0 2 false)],[some (.var [.sl 1 0 3 false,.sl 2 0 3 false]),some (.rows 4 [o1,(w 2),(w 5)] true false),some (.rows 4 [(w 3),(w 4),(w 6)] true false),some (.var [.sl 4 0 3 false,.sl 5 0 3 false]),some (.rows 4 [o1,(w 2),(w 5)] true false),some (.rows 4 [(w 3),(w 4),(w 6)] true false)]⟩):=ex (.cons k41 (.cons k42 .nil)) (by kernel_rfl)
theorem k44:Shows Tryz.prog 80 (.h ⟨[.c (.sl 0 0 2 false)],[some (.var [.sl 1 0 3 false,.sl 2 0 3 false]),some (.rows 4 [o1,(w 2),(w 5)] true false),some (.rows 4 [(w 3),(w 4),(w 6)] true false)]⟩) (.h ⟨[.c (.t (n64 3))],[some (.var [.sl 1 0 3 false,.sl 2 0 3 false]),some (.rows 4 [o1,(w 2),(w 5)] true false),some (.rows 4 [(w 3),(w 4),(w 6)] true false)]⟩):=ex (.nil) (by kernel_rfl)
theorem k45:AC 84 [g [bF,l1]] [y (n64 1)] n1:=ex .nil (by kernel_rfl)
theorem k46:AC 36 [g o1] [y (n64 1)] n1:=ex (c1 k45) (by kernel_rfl)
theorem k47:Shows Tryz.prog 57 (.h ⟨[.c (.sl 0 0 2 false),.c (.t (n64 0)),.c (.t (n64 0))],[some (.var [.sl 1 0 3 false,.sl 2 0 3 false]),some (.rows 4 [o1,(w 2),(w 5)] true false),some (.rows 4 [(w 3),(w 4),(w 6)] true false)]⟩) (.h ⟨[.c (.t (n64 0))],[some (.var [.sl 1 0 3 false,.sl 2 0 3 false]),some (.rows 4 [o1,(w 2),(w 5)] true false),some (.rows 4 [(w 3),(w 4),(w 6)] true false)]⟩):=ex (.cons k46 .nil) (by kernel_rfl)
theorem k48:AC 87 [g o1] [h o1,y (n64 0)] n1:=ex (c1 k45) (by kernel_rfl)
theorem k49:AC 118 [g [bF,l1]] [y bT] n1:=ex .nil (by kernel_rfl)
theorem k50:AC 82 [g [bF,l1],g [bF,l1]] [h o1] n2:=ex (c1 k49) (by kernel_rfl)
theorem k51:AC 137 [x (lF [u 1,u 0])] [y l1] n1:=ex .nil (by kernel_rfl)
theorem k52:AC 125 [x (w64 1)] [y l1] n1:=ex (c1 k51) (by kernel_rfl)
theorem k53:AC 137 [x l1] [y l1] n1:=ex .nil (by kernel_rfl)
theorem k54:AC 122 [x bF,x l1] [h [bF,l1]] n2:=ex (c1 k53) (by kernel_rfl)
theorem k55:AC 92 [x (n64 1)] [h [bF,l1]] n1:=ex (c2 k52 k54) (by kernel_rfl)
theorem k56:AC 83 [x (lF [[bF,l1],[bF,l1]])] [h [bF,l1]] n1:=ex (c2 k55 k49) (by kernel_rfl)
theorem k57:AC 35 [g o1,g o1] [h o1] n2:=ex (c2 k50 k56) (by kernel_rfl)
theorem k58:AC 108 [g o1,.ref o1] [h o1] [none,some (.var [.t (bF),.t (l1),.t (bF),.t (l1)])]:=ex (c1 k57) (by kernel_rfl)
theorem k59:AC 82 [g [bF,lF [u 2]],g [bF,l1]] [h (w 2)] n2:=ex (c1 k49) (by kernel_rfl)
theorem k60:AC 118 [g [bF,lF [u 2]]] [y bF] n1:=ex .nil (by kernel_rfl)
theorem k61:AC 83 [x (lF [[bF,l1],[bF,lF [u 2]]])] [h [bF,lF [u 2]]] n1:=ex (c3 k55 k49 k60) (by kernel_rfl)
theorem k62:AC 35 [g o1,g (w 2)] [h (w 2)] n2:=ex (c4 k50 k59 k61 k56) (by kernel_rfl)
theorem k63:AC 108 [g (w 2),.ref o1] [h (w 2)] [none,some (.var [.t (bF),.t (l1),.t (bF),.t (l1)])]:=ex (c1 k62) (by kernel_rfl)
theorem k64:AC 82 [g [bF,lF [u 5]],g [bF,l1]] [h (w 5)] n2:=ex (c1 k49) (by kernel_rfl)
theorem k65:AC 118 [g [bF,lF [u 5]]] [y bF] n1:=ex .nil (by kernel_rfl)
theorem k66:AC 83 [x (lF [[bF,l1],[bF,lF [u 5]]])] [h [bF,lF [u 5]]] n1:=ex (c3 k55 k49 k65) (by kernel_rfl)
theorem k67:AC 35 [g o1,g (w 5)] [h (w 5)] n2:=ex (c4 k50 k64 k66 k56) (by kernel_rfl)
theorem k68:AC 108 [g (w 5),.ref o1] [h (w 5)] [none,some (.var [.t (bF),.t (l1),.t (bF),.t (l1)])]:=ex (c1 k67) (by kernel_rfl)
theorem k69:AC 107 [x (lF [o1,(w 2),(w 5)]),.clo 108 [(2,(0,0))],.gh o1] [.own 4 [o1,(w 2),(w 5)]] [none,none,some (.var [.t (bF),.t (l1),.t (bF),.t (l1)])]:=ex (c3 k58 k63 k68) (by kernel_rfl)
theorem k70:Shows Tryz.prog 58 (.h ⟨[.c (.sl 0 0 0 false),.c (.sl 1 0 3 false),.c (.t (n64 0))],[some (.var [.sl 1 0 3 false,.sl 2 0 3 false]),some (.rows 4 [o1,(w 2),(w 5)] true false),some (.rows 4 [(w 3),(w 4),(w 6)] true false)]⟩) (.h ⟨[],[some (.var [.sl 1 0 3 false,.sl 2 0 3 false]),some (.rows 4 [o1,(w 2),(w 5)] true false),some (.rows 4 [(w 3),(w 4),(w 6)] true false)]⟩):=ex (.nil) (by kernel_rfl)
theorem k71:AC 84 [g [bF,lF [u 3]]] [y (n64 1)] n1:=ex .nil (by kernel_rfl)
theorem k72:AC 36 [g (w 3)] [y (n64 1)] n1:=ex (c1 k71) (by kernel_rfl)
theorem k73:AC 82 [g [bF,lF [u 3]],g [bF,l1]] [h (w 3)] n2:=ex (c1 k49) (by kernel_rfl)
theorem k74:AC 118 [g [bF,lF [u 3]]] [y bF] n1:=ex .nil (by kernel_rfl)
theorem k75:AC 83 [x (lF [[bF,lF [u 3]],[bF,l1]])] [h [bF,lF [u 3]]] n1:=ex (c3 k55 k74 k49) (by kernel_rfl)
theorem k76:AC 35 [g (w 3),g o1] [h (w 3)] n2:=ex (c4 k73 k50 k75 k56) (by kernel_rfl)
theorem k77:AC 105 [g (w 3),g o1] [h (w 3),y (n64 0)] n2:=ex (c2 k48 k76) (by kernel_rfl)
theorem k78:AC 123 [x (lF [u 3])] [y (lF [u 3])] n1:=ex .nil (by kernel_rfl)
theorem k79:AC 137 [x (lF [u 3])] [y (lF [u 3])] n1:=ex .nil (by kernel_rfl)
theorem k80:AC 122 [x bT,x (lF [u 3])] [h [bT,lF [u 3]]] n2:=ex (c1 k79) (by kernel_rfl)
theorem k81:AC 85 [g [bF,lF [u 3]]] [h [bT,lF [u 3]]] n1:=ex (c2 k78 k80) (by kernel_rfl)
theorem k82:AC 38 [g (w 3)] [h (v 3)] n1:=ex (c1 k81) (by kernel_rfl)
theorem k83:AC 118 [g [bT,lF [u 3]]] [y bF] n1:=ex .nil (by kernel_rfl)
theorem k84:AC 83 [x (lF [[bT,lF [u 3]],[bF,l1]])] [h [bT,lF [u 3]]] n1:=ex (c3 k55 k83 k49) (by kernel_rfl)
theorem k85:AC 136 [x (lF [u 3]),x (lF [u 3])] [y (n64 0)] n2:=ex .nil (by kernel_rfl)
theorem k86:AC 137 [x (lF [u 0])] [y (lF [])] n1:=ex .nil (by kernel_rfl)
theorem k87:AC 141 [x (lF [u 3]),x (lF [u 3])] [y (lF [])] n2:=ex (c1 k86) (by kernel_rfl)
theorem k88:AC 137 [x (lF [])] [y (lF [])] n1:=ex .nil (by kernel_rfl)
theorem k89:AC 122 [x bF,x (lF [])] [h [bF,lT []]] n2:=ex (c1 k88) (by kernel_rfl)
theorem k90:AC 124 [g [bF,lF [u 3]],g [bT,lF [u 3]]] [h [bF,lT []]] n2:=ex (c3 k85 k87 k89) (by kernel_rfl)
theorem k91:AC 82 [g [bF,lT []],g [bF,l1]] [h [bF,lT [],bF,l1]] n2:=ex (c1 k49) (by kernel_rfl)
theorem k92:AC 86 [g (w 3),g (v 3)] [h [bF,lT [],bF,l1]] n2:=ex (d4 k75 k84 k90 k56 (c1 k91)) (by kernel_rfl)
theorem k93:AC 126 [g (w 3),g (w 3)] [h [bF,lT [],bF,l1]] n2:=ex (c2 k82 k92) (by kernel_rfl)
theorem k94:AC 84 [g [bF,lF [u 2]]] [y (n64 1)] n1:=ex .nil (by kernel_rfl)
theorem k95:AC 36 [g (w 2)] [y (n64 1)] n1:=ex (c1 k94) (by kernel_rfl)
theorem k96:AC 137 [x (lF [u 6,u 0])] [y (lF [u 6])] n1:=ex .nil (by kernel_rfl)
theorem k97:AC 142 [x (lF [u 3]),x (lF [u 2])] [y (lF [u 6])] n2:=ex (c1 k96) (by kernel_rfl)
theorem k98:AC 137 [x (lF [u 6])] [y (lF [u 6])] n1:=ex .nil (by kernel_rfl)
theorem k99:AC 122 [x bF,x (lF [u 6])] [h [bF,lF [u 6]]] n2:=ex (c1 k98) (by kernel_rfl)
theorem k100:AC 121 [g [bF,lF [u 3]],g [bF,lF [u 2]]] [h [bF,lF [u 6]]] n2:=ex (c2 k97 k99) (by kernel_rfl)
theorem k101:AC 83 [x (lF [[bF,lF [u 3]],[bF,lF [u 2]]])] [h [bF,lF [u 6]]] n1:=ex (d4 k55 k74 k49 k60 (c1 k100)) (by kernel_rfl)
theorem k102:AC 35 [g (w 3),g (w 2)] [h (w 6)] n2:=ex (c4 k73 k59 k101 k56) (by kernel_rfl)
theorem k103:AC 123 [x (lF [u 6])] [y (lF [u 6])] n1:=ex .nil (by kernel_rfl)
theorem k104:AC 122 [x bT,x (lF [u 6])] [h [bT,lF [u 6]]] n2:=ex (c1 k98) (by kernel_rfl)
theorem k105:AC 85 [g [bF,lF [u 6]]] [h [bT,lF [u 6]]] n1:=ex (c2 k103 k104) (by kernel_rfl)
theorem k106:AC 38 [g (w 6)] [h (v 6)] n1:=ex (c1 k105) (by kernel_rfl)
theorem k107:AC 118 [g [bF,lF [u 4]]] [y bF] n1:=ex .nil (by kernel_rfl)
theorem k108:AC 83 [x (lF [[bF,lF [u 4]],[bF,l1]])] [h [bF,lF [u 4]]] n1:=ex (c3 k55 k107 k49) (by kernel_rfl)
theorem k109:AC 118 [g [bT,lF [u 6]]] [y bF] n1:=ex .nil (by kernel_rfl)
open Go Go.Abs Go.Proofs
theorem k110:AC 83 [x (lF [[bT,lF [u 6]],[bF,l1]])] [h [bT,lF [u 6]]] n1:=ex (c3 k55 k109 k49) (by kernel_rfl)
theorem k111:AC 136 [x (lF [u 4]),x (lF [u 6])] [y (n64 (-1))] n2:=ex .nil (by kernel_rfl)
theorem k112:AC 137 [x (lF [u 2])] [y (lF [u 2])] n1:=ex .nil (by kernel_rfl)
theorem k113:AC 141 [x (lF [u 6]),x (lF [u 4])] [y (lF [u 2])] n2:=ex (c1 k112) (by kernel_rfl)
theorem k114:AC 122 [x bT,x (lF [u 2])] [h [bT,lF [u 2]]] n2:=ex (c1 k112) (by kernel_rfl)
theorem k115:AC 124 [g [bF,lF [u 4]],g [bT,lF [u 6]]] [h [bT,lF [u 2]]] n2:=ex (c3 k111 k113 k114) (by kernel_rfl)
theorem k116:AC 82 [g [bT,lF [u 2]],g [bF,l1]] [h (v 2)] n2:=ex (c1 k49) (by kernel_rfl)
theorem k117:AC 86 [g (w 4),g (v 6)] [h (v 2)] n2:=ex (d4 k108 k110 k115 k56 (c1 k116)) (by kernel_rfl)
theorem k118:AC 126 [g (w 4),g (w 6)] [h (v 2)] n2:=ex (c2 k106 k117) (by kernel_rfl)
theorem k119:AC 84 [g [bF,lF [u 5]]] [y (n64 1)] n1:=ex .nil (by kernel_rfl)
theorem k120:AC 36 [g (w 5)] [y (n64 1)] n1:=ex (c1 k119) (by kernel_rfl)
theorem k121:AC 137 [x (lF [u 15,u 0])] [y (lF [u 15])] n1:=ex .nil (by kernel_rfl)
theorem k122:AC 142 [x (lF [u 3]),x (lF [u 5])] [y (lF [u 15])] n2:=ex (c1 k121) (by kernel_rfl)
theorem k123:AC 137 [x (lF [u 15])] [y (lF [u 15])] n1:=ex .nil (by kernel_rfl)
theorem k124:AC 122 [x bF,x (lF [u 15])] [h [bF,lF [u 15]]] n2:=ex (c1 k123) (by kernel_rfl)
theorem k125:AC 121 [g [bF,lF [u 3]],g [bF,lF [u 5]]] [h [bF,lF [u 15]]] n2:=ex (c2 k122 k124) (by kernel_rfl)
theorem k126:AC 83 [x (lF [[bF,lF [u 3]],[bF,lF [u 5]]])] [h [bF,lF [u 15]]] n1:=ex (d4 k55 k74 k49 k65 (c1 k125)) (by kernel_rfl)
theorem k127:AC 35 [g (w 3),g (w 5)] [h (w 15)] n2:=ex (c4 k73 k64 k126 k56) (by kernel_rfl)
theorem k128:AC 123 [x (lF [u 15])] [y (lF [u 15])] n1:=ex .nil (by kernel_rfl)
theorem k129:AC 122 [x bT,x (lF [u 15])] [h [bT,lF [u 15]]] n2:=ex (c1 k123) (by kernel_rfl)
theorem k130:AC 85 [g [bF,lF [u 15]]] [h [bT,lF [u 15]]] n1:=ex (c2 k128 k129) (by kernel_rfl)
theorem k131:AC 38 [g (w 15)] [h (v 15)] n1:=ex (c1 k130) (by kernel_rfl)
theorem k132:AC 118 [g [bF,lF [u 6]]] [y bF] n1:=ex .nil (by kernel_rfl)
theorem k133:AC 83 [x (lF [[bF,lF [u 6]],[bF,l1]])] [h [bF,lF [u 6]]] n1:=ex (c3 k55 k132 k49) (by kernel_rfl)
theorem k134:AC 118 [g [bT,lF [u 15]]] [y bF] n1:=ex .nil (by kernel_rfl)
theorem k135:AC 83 [x (lF [[bT,lF [u 15]],[bF,l1]])] [h [bT,lF [u 15]]] n1:=ex (c3 k55 k134 k49) (by kernel_rfl)
theorem k136:AC 136 [x (lF [u 6]),x (lF [u 15])] [y (n64 (-1))] n2:=ex .nil (by kernel_rfl)
theorem k137:AC 137 [x (lF [u 9])] [y (lF [u 9])] n1:=ex .nil (by kernel_rfl)
theorem k138:AC 141 [x (lF [u 15]),x (lF [u 6])] [y (lF [u 9])] n2:=ex (c1 k137) (by kernel_rfl)
theorem k139:AC 122 [x bT,x (lF [u 9])] [h [bT,lF [u 9]]] n2:=ex (c1 k137) (by kernel_rfl)
theorem k140:AC 124 [g [bF,lF [u 6]],g [bT,lF [u 15]]] [h [bT,lF [u 9]]] n2:=ex (c3 k136 k138 k139) (by kernel_rfl)
theorem k141:AC 82 [g [bT,lF [u 9]],g [bF,l1]] [h (v 9)] n2:=ex (c1 k49) (by kernel_rfl)
theorem k142:AC 86 [g (w 6),g (v 15)] [h (v 9)] n2:=ex (d4 k133 k135 k140 k56 (c1 k141)) (by kernel_rfl)
theorem k143:AC 126 [g (w 6),g (w 15)] [h (v 9)] n2:=ex (c2 k131 k142) (by kernel_rfl)
theorem k144:AC 94 [.bor 4 [(w 3),(w 4),(w 6)],g (w 3),.bor 4 [o1,(w 2),(w 5)]] [] [some (.rows 4 [[bF,lT [],bF,l1],(v 2),(v 9)] false false),none,some (.rows 4 [o1,(w 2),(w 5)] false false)]:=ex (d4 k72 k46 k76 k93 (d4 k95 k102 k118 k120 (c2 k127 k143))) (by kernel_rfl)
theorem k145:Shows Tryz.prog 58 (.h ⟨[.c (.sl 0 1 1 false),.c (.sl 1 0 3 false),.c (.t (n64 0))],[some (.var [.sl 1 0 3 false,.sl 2 0 3 false]),some (.rows 4 [o1,(w 2),(w 5)] true false),some (.rows 4 [(w 3),(w 4),(w 6)] true false)]⟩) (.h ⟨[],[some (.var [.sl 1 0 3 false,.sl 2 0 3 false]),some (.rows 4 [o1,(w 2),(w 5)] true false),some (.rows 4 [[bF,lT [],bF,l1],(v 2),(v 9)] true false)]⟩):=ex (.cons k72 (.cons k77 (.cons k144 .nil))) (by kernel_rfl)
theorem k146:AC 84 [g [bT,lF [u 2]]] [y (n64 (-1))] n1:=ex .nil (by kernel_rfl)
theorem k147:AC 36 [g (v 2)] [y (n64 (-1))] n1:=ex (c1 k146) (by kernel_rfl)
theorem k148:Shows Tryz.prog 57 (.h ⟨[.c (.sl 0 0 2 false),.c (.t (n64 1)),.c (.t (n64 1))],[some (.var [.sl 1 0 3 false,.sl 2 0 3 false]),some (.rows 4 [o1,(w 2),(w 5)] true false),some (.rows 4 [[bF,lT [],bF,l1],(v 2),(v 9)] true false)]⟩) (.h ⟨[.c (.t (n64 1))],[some (.var [.sl 1 0 3 false,.sl 2 0 3 false]),some (.rows 4 [o1,(w 2),(w 5)] true false),some (.rows 4 [[bF,lT [],bF,l1],(v 2),(v 9)] true false)]⟩):=ex (.cons k147 .nil) (by kernel_rfl)
theorem k149:AC 123 [x l1] [y l1] n1:=ex .nil (by kernel_rfl)
theorem k150:AC 122 [x bT,x l1] [h [bT,l1]] n2:=ex (c1 k53) (by kernel_rfl)
theorem k151:AC 85 [g [bF,l1]] [h [bT,l1]] n1:=ex (c2 k149 k150) (by kernel_rfl)
theorem k152:AC 123 [x (lF [u 2])] [y (lF [u 2])] n1:=ex .nil (by kernel_rfl)
theorem k153:AC 122 [x bF,x (lF [u 2])] [h [bF,lF [u 2]]] n2:=ex (c1 k112) (by kernel_rfl)
theorem k154:AC 85 [g [bT,lF [u 2]]] [h [bF,lF [u 2]]] n1:=ex (c2 k152 k153) (by kernel_rfl)
theorem k155:AC 87 [g (v 2)] [h [bT,l1,bF,lF [u 2]],y (n64 0)] n1:=ex (c3 k146 k151 k154) (by kernel_rfl)
theorem k156:AC 82 [g [bT,l1],g [bF,l1]] [h o2] n2:=ex (c1 k49) (by kernel_rfl)
theorem k157:AC 137 [x (lT [])] [y (lT [])] n1:=ex .nil (by kernel_rfl)
theorem k158:AC 123 [x (lT [])] [y (lT [])] n1:=ex .nil (by kernel_rfl)
theorem k159:AC 138 [x (lT [])] [y (w64 0)] n1:=ex .nil (by kernel_rfl)
theorem k160:AC 138 [x (lF [u 2])] [y (w64 2)] n1:=ex .nil (by kernel_rfl)
theorem k161:AC 137 [x (lF [u 2,u 0])] [y (lF [u 2])] n1:=ex .nil (by kernel_rfl)
theorem k162:AC 125 [x (w64 2)] [y (lF [u 2])] n1:=ex (c1 k161) (by kernel_rfl)
theorem k163:AC 119 [g [bF,lT []],g [bF,lF [u 2]]] [h [bF,lF [u 2]]] n2:=ex (d4 k157 k158 k112 k152 (c4 k159 k160 k162 k153)) (by kernel_rfl)
theorem k164:AC 136 [x (lT []),x (lF [u 2])] [y (n64 (-1))] n2:=ex .nil (by kernel_rfl)
theorem k165:AC 139 [x (lT []),x (lF [u 2])] [y (lT []),y (lT [])] n2:=ex (c4 k157 k112 k164 k158) (by kernel_rfl)
theorem k166:AC 122 [x bF,x (lT [])] [h [bF,lT []]] n2:=ex (c1 k157) (by kernel_rfl)
theorem k167:AC 120 [g [bF,lT []],g [bF,lF [u 2]]] [h [bF,lT []],h [bF,lT []],y (n64 0)] n2:=ex (c3 k112 k165 k166) (by kernel_rfl)
theorem k168:AC 136 [x (lF [u 2]),x (lF [u 2])] [y (n64 0)] n2:=ex .nil (by kernel_rfl)
theorem k169:AC 147 [x (lF [u 2]),x (w64 2)] [y l1,y (w64 0)] n2:=ex (c1 k53) (by kernel_rfl)
theorem k170:AC 137 [x (lF [u 0,u 0])] [y (lF [])] n1:=ex .nil (by kernel_rfl)
theorem k171:AC 125 [x (w64 0)] [y (lF [])] n1:=ex (c1 k170) (by kernel_rfl)
theorem k172:AC 139 [x (lF [u 2]),x (lF [u 2])] [y l1,y (lF [])] n2:=ex (c4 k112 k168 k169 k171) (by kernel_rfl)
theorem k173:AC 120 [g [bF,lF [u 2]],g [bF,lF [u 2]]] [h [bF,l1],h [bF,lT []],y (n64 0)] n2:=ex (c4 k112 k172 k54 k89) (by kernel_rfl)
theorem k174:AC 82 [g [bF,lT []],g [bF,lF [u 2]]] [h [bF,lT [],bF,l1]] n2:=ex (c4 k60 k163 k167 k173) (by kernel_rfl)
theorem k175:AC 118 [g [bT,l1]] [y bF] n1:=ex .nil (by kernel_rfl)
theorem k176:AC 118 [g [bF,lT []]] [y bF] n1:=ex .nil (by kernel_rfl)
theorem k177:AC 142 [x l1,x (lT [])] [y (lF [])] n2:=ex (c1 k86) (by kernel_rfl)
theorem k178:AC 122 [x bT,x (lF [])] [h [bF,lT []]] n2:=ex (c1 k88) (by kernel_rfl)
theorem k179:AC 121 [g [bT,l1],g [bF,lT []]] [h [bF,lT []]] n2:=ex (c2 k177 k178) (by kernel_rfl)
theorem k180:AC 83 [x (lF [[bT,l1],[bF,lT []]])] [h [bF,lT []]] n1:=ex (d4 k55 k175 k49 k176 (c1 k179)) (by kernel_rfl)
theorem k181:AC 35 [g [bT,l1,bF,lF [u 2]],g [bF,lT [],bF,l1]] [h [bF,lT [],bF,l1]] n2:=ex (c4 k156 k174 k180 k56) (by kernel_rfl)
theorem k182:AC 108 [g [bF,lT [],bF,l1],.ref [bT,l1,bF,lF [u 2]]] [h [bF,lT [],bF,l1]] [none,some (.var [.t (bT),.t (l1),.t (bF),.t (lF [u 2])])]:=ex (c1 k181) (by kernel_rfl)
theorem k183:AC 119 [g [bT,lF [u 2]],g [bF,lF [u 2]]] [h [bF,lF [u 2]]] n2:=ex (d4 k112 k152 k160 k162 (c1 k153)) (by kernel_rfl)
theorem k184:AC 120 [g [bT,lF [u 2]],g [bF,lF [u 2]]] [h [bT,l1],h [bF,lT []],y (n64 0)] n2:=ex (c4 k112 k172 k150 k89) (by kernel_rfl)
theorem k185:AC 82 [g [bT,lF [u 2]],g [bF,lF [u 2]]] [h o2] n2:=ex (c4 k60 k183 k184 k173) (by kernel_rfl)
theorem k186:AC 142 [x l1,x l1] [y l1] n2:=ex (c1 k51) (by kernel_rfl)
theorem k187:AC 121 [g [bT,l1],g [bT,l1]] [h [bF,l1]] n2:=ex (c2 k186 k54) (by kernel_rfl)
theorem k188:AC 83 [x (lF [[bT,l1],[bT,l1]])] [h [bF,l1]] n1:=ex (c4 k55 k175 k49 k187) (by kernel_rfl)
theorem k189:AC 35 [g [bT,l1,bF,lF [u 2]],g (v 2)] [h o1] n2:=ex (c4 k156 k185 k188 k56) (by kernel_rfl)
theorem k190:AC 108 [g (v 2),.ref [bT,l1,bF,lF [u 2]]] [h o1] [none,some (.var [.t (bT),.t (l1),.t (bF),.t (lF [u 2])])]:=ex (c1 k189) (by kernel_rfl)
theorem k191:AC 123 [x (lF [u 9])] [y (lF [u 9])] n1:=ex .nil (by kernel_rfl)
theorem k192:AC 138 [x (lF [u 9])] [y (w64 9)] n1:=ex .nil (by kernel_rfl)
theorem k193:AC 119 [g [bT,lF [u 9]],g [bF,lF [u 2]]] [h [bF,l1]] n2:=ex (d4 k137 k191 k112 k152 (c4 k192 k160 k52 k54)) (by kernel_rfl)
theorem k194:AC 82 [g [bT,lF [u 9]],g [bF,lF [u 2]]] [h [bT,lF [u 9],bF,lF [u 2]]] n2:=ex (c3 k60 k193 k49) (by kernel_rfl)
theorem k195:AC 118 [g [bT,lF [u 9]]] [y bF] n1:=ex .nil (by kernel_rfl)
theorem k196:AC 137 [x (lF [u 9,u 0])] [y (lF [u 9])] n1:=ex .nil (by kernel_rfl)
theorem k197:AC 142 [x l1,x (lF [u 9])] [y (lF [u 9])] n2:=ex (c1 k196) (by kernel_rfl)
theorem k198:AC 122 [x bF,x (lF [u 9])] [h [bF,lF [u 9]]] n2:=ex (c1 k137) (by kernel_rfl)
theorem k199:AC 121 [g [bT,l1],g [bT,lF [u 9]]] [h [bF,lF [u 9]]] n2:=ex (c2 k197 k198) (by kernel_rfl)
theorem k200:AC 83 [x (lF [[bT,l1],[bT,lF [u 9]]])] [h [bF,lF [u 9]]] n1:=ex (d4 k55 k175 k49 k195 (c1 k199)) (by kernel_rfl)
theorem k201:AC 35 [g [bT,l1,bF,lF [u 2]],g (v 9)] [h [bF,lF [u 9],bF,lF [u 2]]] n2:=ex (c4 k156 k194 k200 k61) (by kernel_rfl)
theorem k202:AC 108 [g (v 9),.ref [bT,l1,bF,lF [u 2]]] [h [bF,lF [u 9],bF,lF [u 2]]] [none,some (.var [.t (bT),.t (l1),.t (bF),.t (lF [u 2])])]:=ex (c1 k201) (by kernel_rfl)
theorem k203:AC 107 [x (lF [[bF,lT [],bF,l1],(v 2),(v 9)]),.clo 108 [(2,(0,0))],.gh [bT,l1,bF,lF [u 2]]] [.own 4 [[bF,lT [],bF,l1],o1,[bF,lF [u 9],bF,lF [u 2]]]] [none,none,some (.var [.t (bT),.t (l1),.t (bF),.t (lF [u 2])])]:=ex (c3 k182 k190 k202) (by kernel_rfl)
theorem k204:AC 83 [x (lF [[bF,lF [u 2]],[bF,l1]])] [h [bF,lF [u 2]]] n1:=ex (c3 k55 k60 k49) (by kernel_rfl)
theorem k205:AC 35 [g (w 2),g o1] [h (w 2)] n2:=ex (c4 k59 k50 k204 k56) (by kernel_rfl)
theorem k206:AC 105 [g (w 2),g o1] [h (w 2),y (n64 0)] n2:=ex (c2 k48 k205) (by kernel_rfl)
theorem k207:AC 84 [g [bF,lT []]] [y (n64 0)] n1:=ex .nil (by kernel_rfl)
theorem k208:AC 36 [g [bF,lT [],bF,l1]] [y (n64 0)] n1:=ex (c1 k207) (by kernel_rfl)
theorem k209:AC 85 [g [bF,lF [u 2]]] [h [bT,lF [u 2]]] n1:=ex (c2 k152 k114) (by kernel_rfl)
theorem k210:AC 38 [g (w 2)] [h (v 2)] n1:=ex (c1 k209) (by kernel_rfl)
theorem k211:AC 118 [g [bT,lF [u 2]]] [y bF] n1:=ex .nil (by kernel_rfl)
theorem k212:AC 83 [x (lF [[bT,lF [u 2]],[bF,l1]])] [h [bT,lF [u 2]]] n1:=ex (c3 k55 k211 k49) (by kernel_rfl)
theorem k213:AC 141 [x (lF [u 2]),x (lF [u 2])] [y (lF [])] n2:=ex (c1 k86) (by kernel_rfl)
theorem k214:AC 124 [g [bF,lF [u 2]],g [bT,lF [u 2]]] [h [bF,lT []]] n2:=ex (c3 k168 k213 k89) (by kernel_rfl)
theorem k215:AC 86 [g (w 2),g (v 2)] [h [bF,lT [],bF,l1]] n2:=ex (d4 k204 k212 k214 k56 (c1 k91)) (by kernel_rfl)
theorem k216:AC 126 [g (w 2),g (w 2)] [h [bF,lT [],bF,l1]] n2:=ex (c2 k210 k215) (by kernel_rfl)
theorem k217:AC 84 [g [bF,lF [u 9]]] [y (n64 1)] n1:=ex .nil (by kernel_rfl)
theorem k218:AC 36 [g [bF,lF [u 9],bF,lF [u 2]]] [y (n64 1)] n1:=ex (c1 k217) (by kernel_rfl)
theorem k219:AC 119 [g [bF,lF [u 2]],g [bF,lF [u 2]]] [h [bF,lF [u 2]]] n2:=ex (d4 k112 k152 k160 k162 (c1 k153)) (by kernel_rfl)
open Go Go.Abs Go.Proofs
theorem k220:AC 82 [g [bF,lF [u 2]],g [bF,lF [u 2]]] [h o1] n2:=ex (c3 k60 k219 k173) (by kernel_rfl)
theorem k221:AC 82 [g [bF,lF [u 9]],g [bF,l1]] [h (w 9)] n2:=ex (c1 k49) (by kernel_rfl)
theorem k222:AC 118 [g [bF,lF [u 9]]] [y bF] n1:=ex .nil (by kernel_rfl)
theorem k223:AC 83 [x (lF [[bF,l1],[bF,lF [u 9]]])] [h [bF,lF [u 9]]] n1:=ex (c3 k55 k49 k222) (by kernel_rfl)
theorem k224:AC 35 [g (w 2),g [bF,lF [u 9],bF,lF [u 2]]] [h (w 9)] n2:=ex (c4 k220 k221 k223 k56) (by kernel_rfl)
theorem k225:AC 85 [g [bF,lF [u 9]]] [h [bT,lF [u 9]]] n1:=ex (c2 k191 k139) (by kernel_rfl)
theorem k226:AC 38 [g (w 9)] [h (v 9)] n1:=ex (c1 k225) (by kernel_rfl)
theorem k227:AC 83 [x (lF [[bF,lF [u 5]],[bF,l1]])] [h [bF,lF [u 5]]] n1:=ex (c3 k55 k65 k49) (by kernel_rfl)
theorem k228:AC 83 [x (lF [[bT,lF [u 9]],[bF,l1]])] [h [bT,lF [u 9]]] n1:=ex (c3 k55 k195 k49) (by kernel_rfl)
theorem k229:AC 136 [x (lF [u 5]),x (lF [u 9])] [y (n64 (-1))] n2:=ex .nil (by kernel_rfl)
theorem k230:AC 137 [x (lF [u 4])] [y (lF [u 4])] n1:=ex .nil (by kernel_rfl)
theorem k231:AC 141 [x (lF [u 9]),x (lF [u 5])] [y (lF [u 4])] n2:=ex (c1 k230) (by kernel_rfl)
theorem k232:AC 122 [x bT,x (lF [u 4])] [h [bT,lF [u 4]]] n2:=ex (c1 k230) (by kernel_rfl)
theorem k233:AC 124 [g [bF,lF [u 5]],g [bT,lF [u 9]]] [h [bT,lF [u 4]]] n2:=ex (c3 k229 k231 k232) (by kernel_rfl)
theorem k234:AC 82 [g [bT,lF [u 4]],g [bF,l1]] [h (v 4)] n2:=ex (c1 k49) (by kernel_rfl)
theorem k235:AC 86 [g (w 5),g (v 9)] [h (v 4)] n2:=ex (d4 k227 k228 k233 k56 (c1 k234)) (by kernel_rfl)
theorem k236:AC 126 [g (w 5),g (w 9)] [h (v 4)] n2:=ex (c2 k226 k235) (by kernel_rfl)
theorem k237:AC 94 [.bor 4 [o1,(w 2),(w 5)],g (w 2),.bor 4 [[bF,lT [],bF,l1],o1,[bF,lF [u 9],bF,lF [u 2]]]] [] [some (.rows 4 [o1,[bF,lT [],bF,l1],(v 4)] false false),none,some (.rows 4 [[bF,lT [],bF,l1],o1,[bF,lF [u 9],bF,lF [u 2]]] false false)]:=ex (d4 k95 k208 k46 k205 (c4 k216 k218 k224 k236)) (by kernel_rfl)
theorem k238:Shows Tryz.prog 58 (.h ⟨[.c (.sl 0 0 1 false),.c (.sl 1 0 3 false),.c (.t (n64 1))],[some (.var [.sl 2 0 3 false,.sl 1 0 3 false]),some (.rows 4 [[bF,lT [],bF,l1],o1,[bF,lF [u 9],bF,lF [u 2]]] true false),some (.rows 4 [o1,(w 2),(w 5)] true false)]⟩) (.h ⟨[],[some (.var [.sl 2 0 3 false,.sl 1 0 3 false]),some (.rows 4 [[bF,lT [],bF,l1],o1,[bF,lF [u 9],bF,lF [u 2]]] true false),some (.rows 4 [o1,[bF,lT [],bF,l1],(v 4)] true false)]⟩):=ex (.cons k95 (.cons k206 (.cons k237 .nil))) (by kernel_rfl)
theorem k239:Shows Tryz.prog 58 (.h ⟨[.c (.sl 0 2 0 false),.c (.sl 1 0 3 false),.c (.t (n64 1))],[some (.var [.sl 2 0 3 false,.sl 1 0 3 false]),some (.rows 4 [[bF,lT [],bF,l1],o1,[bF,lF [u 9],bF,lF [u 2]]] true false),some (.rows 4 [o1,[bF,lT [],bF,l1],(v 4)] true false)]⟩) (.h ⟨[],[some (.var [.sl 2 0 3 false,.sl 1 0 3 false]),some (.rows 4 [[bF,lT [],bF,l1],o1,[bF,lF [u 9],bF,lF [u 2]]] true false),some (.rows 4 [o1,[bF,lT [],bF,l1],(v 4)] true false)]⟩):=ex (.nil) (by kernel_rfl)
theorem k240:Shows Tryz.prog 57 (.h ⟨[.c (.sl 0 0 2 false),.c (.t (n64 2)),.c (.t (n64 2))],[some (.var [.sl 1 0 3 false,.sl 2 0 3 false]),some (.rows 4 [o1,[bF,lT [],bF,l1],(v 4)] true false),some (.rows 4 [[bF,lT [],bF,l1],o1,[bF,lF [u 9],bF,lF [u 2]]] true false)]⟩) (.h ⟨[.c (.t (n64 (-1)))],[some (.var [.sl 1 0 3 false,.sl 2 0 3 false]),some (.rows 4 [o1,[bF,lT [],bF,l1],(v 4)] true false),some (.rows 4 [[bF,lT [],bF,l1],o1,[bF,lF [u 9],bF,lF [u 2]]] true false)]⟩):=ex (.nil) (by kernel_rfl)
theorem k241:Shows Tryz.prog 61 (.h ⟨[.c (.sl 0 0 2 false)],[some (.var [.sl 1 0 3 false,.sl 2 0 3 false]),some (.rows 4 [o1,(w 2),(w 5)] true false),some (.rows 4 [(w 3),(w 4),(w 6)] true false)]⟩) (.h ⟨[.c (.sl 3 0 2 false),.c (.sl 4 0 2 false)],[some (.var [.sl 1 0 3 false,.sl 2 0 3 false]),some (.rows 4 [o1,(w 2),(w 5)] true false),some (.rows 4 [(w 3),(w 4),(w 6)] true false),some (.var [.sl 5 0 3 false,.sl 6 0 3 false]),some (.rows 1 [[n64 0],[n64 1]] true false),some (.rows 4 [o1,[bF,lT [],bF,l1],(v 4)] true false),some (.rows 4 [[bF,lT [],bF,l1],o1,[bF,lF [u 9],bF,lF [u 2]]] true false)]⟩):=ex (.cons k43 (.cons k44 (.cons k47 (.cons k48 (.cons k69 (.cons k70 (.cons k145 (.cons k148 (.cons k155 (.cons k203 (.cons k238 (.cons k239 (.cons k240 .nil))))))))))))) (by kernel_rfl)
theorem k242:AC 117 [x (lF [[n64 0],[n64 1]]),x (n64 2)] [y (n64 (-1))] n2:=ex .nil (by kernel_rfl)
theorem k243:AC 81 [x (lF [[n64 0],[n64 1]]),x (n64 2)] [y bF] n2:=ex (c1 k242) (by kernel_rfl)
theorem k244:AC 92 [x (n64 0)] [h [bF,lT []]] n1:=ex (c2 k171 k89) (by kernel_rfl)
theorem k245:AC 91 [g [bF,lT []]] [h [bF,lT [],bF,l1]] n1:=ex (c1 k55) (by kernel_rfl)
theorem k246:AC 41 [x (n64 0)] [h [bF,lT [],bF,l1]] n1:=ex (c2 k244 k245) (by kernel_rfl)
theorem k247:AC 60 [x (n64 2)] [.own 4 [[bF,lT [],bF,l1],[bF,lT [],bF,l1]]] n1:=ex (c1 k246) (by kernel_rfl)
theorem k248:AC 31 [x (lF [[lF [o1,(w 2)]],[lF [(w 3),(w 4)]]]),x (lF [(w 5),(w 6)])] [y (lF [(v 4),[bF,lF [u 9],bF,lF [u 2]]]),y (n64 0)] n2:=ex (d4 k38 k39 k40 k241 (c2 k243 k247)) (by kernel_rfl)
theorem k249:AC 50 [x (lF [[n64 1],[n64 2],[n64 2],[n64 4]])] [y (lF [[lF [o1,(w 2)]],[lF [(w 2),(w 4)]]])] n1:=ex (c3 k5 k11 k23) (by kernel_rfl)
theorem k250:AC 51 [x (lF [[n64 1],[n64 3]])] [y (lF [o1,(w 3)])] n1:=ex (c2 k5 k17) (by kernel_rfl)
theorem k251:Shows Tryz.prog 80 (.h ⟨[.c (.t (lF [[lF [o1,(w 2)]],[lF [(w 2),(w 4)]]]))],[]⟩) (.h ⟨[.c (.t (n64 2))],[]⟩):=ex (.nil) (by kernel_rfl)
theorem k252:AC 56 [x (lF [(w 2),(w 4)])] [.own 4 [(w 2),(w 4)]] n1:=ex .nil (by kernel_rfl)
theorem k253:AC 56 [.bor 4 [o1,(w 2),o1]] [.own 4 [o1,(w 2),o1]] [some (.rows 4 [o1,(w 2),o1] false false)]:=ex .nil (by kernel_rfl)
theorem k254:AC 56 [.bor 4 [(w 2),(w 4),(w 3)]] [.own 4 [(w 2),(w 4),(w 3)]] [some (.rows 4 [(w 2),(w 4),(w 3)] false false)]:=ex .nil (by kernel_rfl)
theorem k255:Shows Tryz.prog 55 (.h ⟨[.c (.sl 0 0 2 false),.c (.t (.v (.func (.func 56) #[] #[])))],[some (.var [.sl 1 0 3 false,.sl 2 0 3 false]),some (.rows 4 [o1,(w 2),o1] true false),some (.rows 4 [(w 2),(w 4),(w 3)] true false)]⟩) (.h ⟨[.c (.sl 3 0 2 false)],[some (.var [.sl 1 0 3 false,.sl 2 0 3 false]),some (.rows 4 [o1,(w 2),o1] true false),some (.rows 4 [(w 2),(w 4),(w 3)] true false),some (.var [.sl 4 0 3 false,.sl 5 0 3 false]),some (.rows 4 [o1,(w 2),o1] true false),some (.rows 4 [(w 2),(w 4),(w 3)] true false)]⟩):=ex (.cons k253 (.cons k254 .nil)) (by kernel_rfl)
theorem k256:Shows Tryz.prog 80 (.h ⟨[.c (.sl 0 0 2 false)],[some (.var [.sl 1 0 3 false,.sl 2 0 3 false]),some (.rows 4 [o1,(w 2),o1] true false),some (.rows 4 [(w 2),(w 4),(w 3)] true false)]⟩) (.h ⟨[.c (.t (n64 3))],[some (.var [.sl 1 0 3 false,.sl 2 0 3 false]),some (.rows 4 [o1,(w 2),o1] true false),some (.rows 4 [(w 2),(w 4),(w 3)] true false)]⟩):=ex (.nil) (by kernel_rfl)
theorem k257:Shows Tryz.prog 57 (.h ⟨[.c (.sl 0 0 2 false),.c (.t (n64 0)),.c (.t (n64 0))],[some (.var [.sl 1 0 3 false,.sl 2 0 3 false]),some (.rows 4 [o1,(w 2),o1] true false),some (.rows 4 [(w 2),(w 4),(w 3)] true false)]⟩) (.h ⟨[.c (.t (n64 0))],[some (.var [.sl 1 0 3 false,.sl 2 0 3 false]),some (.rows 4 [o1,(w 2),o1] true false),some (.rows 4 [(w 2),(w 4),(w 3)] true false)]⟩):=ex (.cons k46 .nil) (by kernel_rfl)
theorem k258:AC 107 [x (lF [o1,(w 2),o1]),.clo 108 [(2,(0,0))],.gh o1] [.own 4 [o1,(w 2),o1]] [none,none,some (.var [.t (bF),.t (l1),.t (bF),.t (l1)])]:=ex (c2 k58 k63) (by kernel_rfl)
theorem k259:Shows Tryz.prog 58 (.h ⟨[.c (.sl 0 0 0 false),.c (.sl 1 0 3 false),.c (.t (n64 0))],[some (.var [.sl 1 0 3 false,.sl 2 0 3 false]),some (.rows 4 [o1,(w 2),o1] true false),some (.rows 4 [(w 2),(w 4),(w 3)] true false)]⟩) (.h ⟨[],[some (.var [.sl 1 0 3 false,.sl 2 0 3 false]),some (.rows 4 [o1,(w 2),o1] true false),some (.rows 4 [(w 2),(w 4),(w 3)] true false)]⟩):=ex (.nil) (by kernel_rfl)
theorem k260:AC 137 [x (lF [u 4,u 0])] [y (lF [u 4])] n1:=ex .nil (by kernel_rfl)
theorem k261:AC 142 [x (lF [u 2]),x (lF [u 2])] [y (lF [u 4])] n2:=ex (c1 k260) (by kernel_rfl)
theorem k262:AC 122 [x bF,x (lF [u 4])] [h [bF,lF [u 4]]] n2:=ex (c1 k230) (by kernel_rfl)
theorem k263:AC 121 [g [bF,lF [u 2]],g [bF,lF [u 2]]] [h [bF,lF [u 4]]] n2:=ex (c2 k261 k262) (by kernel_rfl)
theorem k264:AC 83 [x (lF [[bF,lF [u 2]],[bF,lF [u 2]]])] [h [bF,lF [u 4]]] n1:=ex (c4 k55 k60 k49 k263) (by kernel_rfl)
theorem k265:AC 35 [g (w 2),g (w 2)] [h (w 4)] n2:=ex (c3 k59 k264 k56) (by kernel_rfl)
theorem k266:AC 123 [x (lF [u 4])] [y (lF [u 4])] n1:=ex .nil (by kernel_rfl)
theorem k267:AC 85 [g [bF,lF [u 4]]] [h [bT,lF [u 4]]] n1:=ex (c2 k266 k232) (by kernel_rfl)
theorem k268:AC 38 [g (w 4)] [h (v 4)] n1:=ex (c1 k267) (by kernel_rfl)
theorem k269:AC 118 [g [bT,lF [u 4]]] [y bF] n1:=ex .nil (by kernel_rfl)
theorem k270:AC 83 [x (lF [[bT,lF [u 4]],[bF,l1]])] [h [bT,lF [u 4]]] n1:=ex (c3 k55 k269 k49) (by kernel_rfl)
theorem k271:AC 136 [x (lF [u 4]),x (lF [u 4])] [y (n64 0)] n2:=ex .nil (by kernel_rfl)
theorem k272:AC 141 [x (lF [u 4]),x (lF [u 4])] [y (lF [])] n2:=ex (c1 k86) (by kernel_rfl)
theorem k273:AC 124 [g [bF,lF [u 4]],g [bT,lF [u 4]]] [h [bF,lT []]] n2:=ex (c3 k271 k272 k89) (by kernel_rfl)
theorem k274:AC 86 [g (w 4),g (v 4)] [h [bF,lT [],bF,l1]] n2:=ex (d4 k108 k270 k273 k56 (c1 k91)) (by kernel_rfl)
theorem k275:AC 126 [g (w 4),g (w 4)] [h [bF,lT [],bF,l1]] n2:=ex (c2 k268 k274) (by kernel_rfl)
theorem k276:AC 136 [x (lF [u 3]),x (lF [u 2])] [y (n64 1)] n2:=ex .nil (by kernel_rfl)
theorem k277:AC 141 [x (lF [u 3]),x (lF [u 2])] [y l1] n2:=ex (c1 k53) (by kernel_rfl)
theorem k278:AC 124 [g [bF,lF [u 3]],g [bT,lF [u 2]]] [h [bF,l1]] n2:=ex (c3 k276 k277 k54) (by kernel_rfl)
theorem k279:AC 86 [g (w 3),g (v 2)] [h o1] n2:=ex (d4 k75 k212 k278 k56 (c1 k50)) (by kernel_rfl)
theorem k280:AC 126 [g (w 3),g (w 2)] [h o1] n2:=ex (c2 k210 k279) (by kernel_rfl)
theorem k281:AC 94 [.bor 4 [(w 2),(w 4),(w 3)],g (w 2),.bor 4 [o1,(w 2),o1]] [] [some (.rows 4 [[bF,lT [],bF,l1],[bF,lT [],bF,l1],o1] false false),none,some (.rows 4 [o1,(w 2),o1] false false)]:=ex (d4 k95 k46 k205 k216 (c3 k265 k275 k280)) (by kernel_rfl)
theorem k282:Shows Tryz.prog 58 (.h ⟨[.c (.sl 0 1 1 false),.c (.sl 1 0 3 false),.c (.t (n64 0))],[some (.var [.sl 1 0 3 false,.sl 2 0 3 false]),some (.rows 4 [o1,(w 2),o1] true false),some (.rows 4 [(w 2),(w 4),(w 3)] true false)]⟩) (.h ⟨[],[some (.var [.sl 1 0 3 false,.sl 2 0 3 false]),some (.rows 4 [o1,(w 2),o1] true false),some (.rows 4 [[bF,lT [],bF,l1],[bF,lT [],bF,l1],o1] true false)]⟩):=ex (.cons k95 (.cons k206 (.cons k281 .nil))) (by kernel_rfl)
theorem k283:Shows Tryz.prog 57 (.h ⟨[.c (.sl 0 0 2 false),.c (.t (n64 1)),.c (.t (n64 1))],[some (.var [.sl 1 0 3 false,.sl 2 0 3 false]),some (.rows 4 [o1,(w 2),o1] true false),some (.rows 4 [[bF,lT [],bF,l1],[bF,lT [],bF,l1],o1] true false)]⟩) (.h ⟨[.c (.t (n64 (-1)))],[some (.var [.sl 1 0 3 false,.sl 2 0 3 false]),some (.rows 4 [o1,(w 2),o1] true false),some (.rows 4 [[bF,lT [],bF,l1],[bF,lT [],bF,l1],o1] true false)]⟩):=ex (.cons k208 .nil) (by kernel_rfl)
theorem k284:Shows Tryz.prog 57 (.h ⟨[.c (.sl 0 0 2 false),.c (.t (n64 1)),.c (.t (n64 2))],[some (.var [.sl 1 0 3 false,.sl 2 0 3 false]),some (.rows 4 [o1,(w 2),o1] true false),some (.rows 4 [[bF,lT [],bF,l1],[bF,lT [],bF,l1],o1] true false)]⟩) (.h ⟨[.c (.t (n64 1))],[some (.var [.sl 1 0 3 false,.sl 2 0 3 false]),some (.rows 4 [o1,(w 2),o1] true false),some (.rows 4 [[bF,lT [],bF,l1],[bF,lT [],bF,l1],o1] true false)]⟩):=ex (.cons k46 .nil) (by kernel_rfl)
theorem k285:AC 83 [x (lF [[bF,l1],[bF,lT []]])] [h [bF,lT []]] n1:=ex (c3 k55 k49 k176) (by kernel_rfl)
theorem k286:AC 35 [g o1,g [bF,lT [],bF,l1]] [h [bF,lT [],bF,l1]] n2:=ex (c4 k50 k91 k285 k56) (by kernel_rfl)
theorem k287:AC 108 [g [bF,lT [],bF,l1],.ref o1] [h [bF,lT [],bF,l1]] [none,some (.var [.t (bF),.t (l1),.t (bF),.t (l1)])]:=ex (c1 k286) (by kernel_rfl)
theorem k288:AC 107 [x (lF [[bF,lT [],bF,l1],[bF,lT [],bF,l1],o1]),.clo 108 [(2,(0,0))],.gh o1] [.own 4 [[bF,lT [],bF,l1],[bF,lT [],bF,l1],o1]] [none,none,some (.var [.t (bF),.t (l1),.t (bF),.t (l1)])]:=ex (c2 k287 k58) (by kernel_rfl)
theorem k289:AC 105 [g o1,g o1] [h o1,y (n64 0)] n2:=ex (c2 k48 k57) (by kernel_rfl)
theorem k290:AC 38 [g o1] [h o2] n1:=ex (c1 k151) (by kernel_rfl)
theorem k291:AC 83 [x (lF [[bT,l1],[bF,l1]])] [h [bT,l1]] n1:=ex (c3 k55 k175 k49) (by kernel_rfl)
theorem k292:AC 136 [x l1,x l1] [y (n64 0)] n2:=ex .nil (by kernel_rfl)
theorem k293:AC 141 [x l1,x l1] [y (lF [])] n2:=ex (c1 k86) (by kernel_rfl)
theorem k294:AC 124 [g [bF,l1],g [bT,l1]] [h [bF,lT []]] n2:=ex (c3 k292 k293 k89) (by kernel_rfl)
theorem k295:AC 86 [g o1,g o2] [h [bF,lT [],bF,l1]] n2:=ex (c4 k56 k291 k294 k91) (by kernel_rfl)
theorem k296:AC 126 [g o1,g o1] [h [bF,lT [],bF,l1]] n2:=ex (c2 k290 k295) (by kernel_rfl)
theorem k297:AC 94 [.bor 4 [o1,(w 2),o1],g o1,.bor 4 [[bF,lT [],bF,l1],[bF,lT [],bF,l1],o1]] [] [some (.rows 4 [o1,(w 2),[bF,lT [],bF,l1]] false false),none,some (.rows 4 [[bF,lT [],bF,l1],[bF,lT [],bF,l1],o1] false false)]:=ex (c4 k46 k208 k57 k296) (by kernel_rfl)
theorem k298:Shows Tryz.prog 58 (.h ⟨[.c (.sl 0 0 1 false),.c (.sl 1 0 3 false),.c (.t (n64 2))],[some (.var [.sl 2 0 3 false,.sl 1 0 3 false]),some (.rows 4 [[bF,lT [],bF,l1],[bF,lT [],bF,l1],o1] true false),some (.rows 4 [o1,(w 2),o1] true false)]⟩) (.h ⟨[],[some (.var [.sl 2 0 3 false,.sl 1 0 3 false]),some (.rows 4 [[bF,lT [],bF,l1],[bF,lT [],bF,l1],o1] true false),some (.rows 4 [o1,(w 2),[bF,lT [],bF,l1]] true false)]⟩):=ex (.cons k46 (.cons k289 (.cons k297 .nil))) (by kernel_rfl)
theorem k299:Shows Tryz.prog 58 (.h ⟨[.c (.sl 0 2 0 false),.c (.sl 1 0 3 false),.c (.t (n64 2))],[some (.var [.sl 2 0 3 false,.sl 1 0 3 false]),some (.rows 4 [[bF,lT [],bF,l1],[bF,lT [],bF,l1],o1] true false),some (.rows 4 [o1,(w 2),[bF,lT [],bF,l1]] true false)]⟩) (.h ⟨[],[some (.var [.sl 2 0 3 false,.sl 1 0 3 false]),some (.rows 4 [[bF,lT [],bF,l1],[bF,lT [],bF,l1],o1] true false),some (.rows 4 [o1,(w 2),[bF,lT [],bF,l1]] true false)]⟩):=ex (.nil) (by kernel_rfl)
theorem k300:Shows Tryz.prog 61 (.h ⟨[.c (.sl 0 0 2 false)],[some (.var [.sl 1 0 3 false,.sl 2 0 3 false]),some (.rows 4 [o1,(w 2),o1] true false),some (.rows 4 [(w 2),(w 4),(w 3)] true false)]⟩) (.h ⟨[.c (.sl 3 0 2 false),.c (.sl 4 0 2 false)],[some (.var [.sl 1 0 3 false,.sl 2 0 3 false]),some (.rows 4 [o1,(w 2),o1] true false),some (.rows 4 [(w 2),(w 4),(w 3)] true false),some (.var [.sl 5 0 3 false,.sl 6 0 3 false]),some (.rows 1 [[n64 0],[n64 2]] true false),some (.rows 4 [o1,(w 2),[bF,lT [],bF,l1]] true false),some (.rows 4 [[bF,lT [],bF,l1],[bF,lT [],bF,l1],o1] true false)]⟩):=ex (.cons k255 (.cons k256 (.cons k257 (.cons k48 (.cons k258 (.cons k259 (.cons k282 (.cons k283 (.cons k284 (.cons k288 (.cons k298 (.cons k299 .nil)))))))))))) (by kernel_rfl)
theorem k301:AC 117 [x (lF [[n64 0],[n64 2]]),x (n64 2)] [y (n64 1)] n2:=ex .nil (by kernel_rfl)
theorem k302:AC 81 [x (lF [[n64 0],[n64 2]]),x (n64 2)] [y bT] n2:=ex (c1 k301) (by kernel_rfl)
theorem k303:AC 31 [x (lF [[lF [o1,(w 2)]],[lF [(w 2),(w 4)]]]),x (lF [o1,(w 3)])] [y (lT []),y (n64 111)] n2:=ex (d4 k251 k39 k252 k300 (c1 k302)) (by kernel_rfl)
theorem k304:AC 50 [x (lF [[n64 1],[n64 2]])] [y (lF [[lF [o1,(w 2)]]])] n1:=ex (c2 k5 k11) (by kernel_rfl)
theorem k305:AC 51 [x (lF [[n64 3]])] [y (lF [(w 3)])] n1:=ex (c1 k17) (by kernel_rfl)
theorem k306:Shows Tryz.prog 80 (.h ⟨[.c (.t (lF [[lF [o1,(w 2)]]]))],[]⟩) (.h ⟨[.c (.t (n64 2))],[]⟩):=ex (.nil) (by kernel_rfl)
theorem k307:AC 56 [.bor 4 [o1,(w 2),(w 3)]] [.own 4 [o1,(w 2),(w 3)]] [some (.rows 4 [o1,(w 2),(w 3)] false false)]:=ex .nil (by kernel_rfl)
theorem k308:Shows Tryz.prog 55 (.h ⟨[.c (.sl 0 0 1 false),.c (.t (.v (.func (.func 56) #[] #[])))],[some (.var [.sl 1 0 3 false]),some (.rows 4 [o1,(w 2),(w 3)] true false)]⟩) (.h ⟨[.c (.sl 2 0 1 false)],[some (.var [.sl 1 0 3 false]),some (.rows 4 [o1,(w 2),(w 3)] true false),some (.var [.sl 3 0 3 false]),some (.rows 4 [o1,(w 2),(w 3)] true false)]⟩):=ex (.cons k307 .nil) (by kernel_rfl)
theorem k309:Shows Tryz.prog 80 (.h ⟨[.c (.sl 0 0 1 false)],[some (.var [.sl 1 0 3 false]),some (.rows 4 [o1,(w 2),(w 3)] true false)]⟩) (.h ⟨[.c (.t (n64 3))],[some (.var [.sl 1 0 3 false]),some (.rows 4 [o1,(w 2),(w 3)] true false)]⟩):=ex (.nil) (by kernel_rfl)
theorem k310:Shows Tryz.prog 57 (.h ⟨[.c (.sl 0 0 1 false),.c (.t (n64 0)),.c (.t (n64 0))],[some (.var [.sl 1 0 3 false]),some (.rows 4 [o1,(w 2),(w 3)] true false)]⟩) (.h ⟨[.c (.t (n64 0))],[some (.var [.sl 1 0 3 false]),some (.rows 4 [o1,(w 2),(w 3)] true false)]⟩):=ex (.cons k46 .nil) (by kernel_rfl)
theorem k311:AC 83 [x (lF [[bF,l1],[bF,lF [u 3]]])] [h [bF,lF [u 3]]] n1:=ex (c3 k55 k49 k74) (by kernel_rfl)
theorem k312:AC 35 [g o1,g (w 3)] [h (w 3)] n2:=ex (c4 k50 k73 k311 k56) (by kernel_rfl)
theorem k313:AC 108 [g (w 3),.ref o1] [h (w 3)] [none,some (.var [.t (bF),.t (l1),.t (bF),.t (l1)])]:=ex (c1 k312) (by kernel_rfl)
theorem k314:AC 107 [x (lF [o1,(w 2),(w 3)]),.clo 108 [(2,(0,0))],.gh o1] [.own 4 [o1,(w 2),(w 3)]] [none,none,some (.var [.t (bF),.t (l1),.t (bF),.t (l1)])]:=ex (c3 k58 k63 k313) (by kernel_rfl)
theorem k315:Shows Tryz.prog 58 (.h ⟨[.c (.sl 0 0 0 false),.c (.sl 1 0 3 false),.c (.t (n64 0))],[some (.var [.sl 1 0 3 false]),some (.rows 4 [o1,(w 2),(w 3)] true false)]⟩) (.h ⟨[],[some (.var [.sl 1 0 3 false]),some (.rows 4 [o1,(w 2),(w 3)] true false)]⟩):=ex (.nil) (by kernel_rfl)
theorem k316:Shows Tryz.prog 58 (.h ⟨[.c (.sl 0 1 0 false),.c (.sl 1 0 3 false),.c (.t (n64 0))],[some (.var [.sl 1 0 3 false]),some (.rows 4 [o1,(w 2),(w 3)] true false)]⟩) (.h ⟨[],[some (.var [.sl 1 0 3 false]),some (.rows 4 [o1,(w 2),(w 3)] true false)]⟩):=ex (.nil) (by kernel_rfl)
theorem k317:Shows Tryz.prog 57 (.h ⟨[.c (.sl 0 0 1 false),.c (.t (n64 1)),.c (.t (n64 1))],[some (.var [.sl 1 0 3 false]),some (.rows 4 [o1,(w 2),(w 3)] true false)]⟩) (.h ⟨[.c (.t (n64 (-1)))],[some (.var [.sl 1 0 3 false]),some (.rows 4 [o1,(w 2),(w 3)] true false)]⟩):=ex (.nil) (by kernel_rfl)
theorem k318:Shows Tryz.prog 57 (.h ⟨[.c (.sl 0 0 1 false),.c (.t (n64 1)),.c (.t (n64 2))],[some (.var [.sl 1 0 3 false]),some (.rows 4 [o1,(w 2),(w 3)] true false)]⟩) (.h ⟨[.c (.t (n64 (-1)))],[some (.var [.sl 1 0 3 false]),some (.rows 4 [o1,(w 2),(w 3)] true false)]⟩):=ex (.nil) (by kernel_rfl)
theorem k319:Shows Tryz.prog 61 (.h ⟨[.c (.sl 0 0 1 false)],[some (.var [.sl 1 0 3 false]),some (.rows 4 [o1,(w 2),(w 3)] true false)]⟩) (.h ⟨[.c (.sl 2 0 1 false),.c (.sl 3 0 1 false)],[some (.var [.sl 1 0 3 false]),some (.rows 4 [o1,(w 2),(w 3)] true false),some (.var [.sl 4 0 3 false]),some (.rows 1 [[n64 0]] true false),some (.rows 4 [o1,(w 2),(w 3)] true false)]⟩):=ex (.cons k308 (.cons k309 (.cons k310 (.cons k48 (.cons k314 (.cons k315 (.cons k316 (.cons k317 (.cons k318 .nil))))))))) (by kernel_rfl)
theorem k320:AC 117 [x (lF [[n64 0]]),x (n64 2)] [y (n64 (-1))] n2:=ex .nil (by kernel_rfl)
theorem k321:AC 81 [x (lF [[n64 0]]),x (n64 2)] [y bF] n2:=ex (c1 k320) (by kernel_rfl)
theorem k322:AC 31 [x (lF [[lF [o1,(w 2)]]]),x (lF [(w 3)])] [y (lF [(w 3),[bF,lT [],bF,l1]]),y (n64 0)] n2:=ex (d4 k306 k39 k319 k321 (c1 k247)) (by kernel_rfl)
theorem k323:Shows Tryz.prog 54 (.h ⟨[.c (.t (lF [[lF [o1,(w 2)]],[lF [(w 3),(w 4)]]]))],[]⟩) (.h ⟨[.c (.t (bT))],[]⟩):=ex (.cons k38 .nil) (by kernel_rfl)
theorem k324:Shows Tryz.prog 55 (.h ⟨[.c (.t (lF [[lF [o1,(w 2)]],[lF [(w 3),(w 4)]]])),.c (.t (.v (.func (.func 56) #[] #[])))],[]⟩) (.h ⟨[.c (.sl 0 0 2 false)],[some (.var [.sl 1 0 2 false,.sl 2 0 2 false]),some (.rows 4 [o1,(w 2)] true false),some (.rows 4 [(w 3),(w 4)] true false)]⟩):=ex (.cons k39 (.cons k40 .nil)) (by kernel_rfl)
theorem k325:AC 91 [g [bF,l1]] [h o1] n1:=ex (c1 k55) (by kernel_rfl)
theorem k326:AC 41 [x (n64 1)] [h o1] n1:=ex (c2 k55 k325) (by kernel_rfl)
theorem k327:Shows Tryz.prog 57 (.h ⟨[.c (.sl 0 0 2 false),.c (.t (n64 0)),.c (.t (n64 0))],[some (.var [.sl 1 0 2 false,.sl 2 0 2 false]),some (.rows 4 [o1,(w 2)] true false),some (.rows 4 [(w 3),(w 4)] true false)]⟩) (.h ⟨[.c (.t (n64 0))],[some (.var [.sl 1 0 2 false,.sl 2 0 2 false]),some (.rows 4 [o1,(w 2)] true false),some (.rows 4 [(w 3),(w 4)] true false)]⟩):=ex (.cons k46 .nil) (by kernel_rfl)
theorem k328:AC 94 [.bor 4 [(w 3),(w 4)],g (w 3),.bor 4 [o1,(w 2)]] [] [some (.rows 4 [[bF,lT [],bF,l1],(v 2)] false false),none,some (.rows 4 [o1,(w 2)] false false)]:=ex (d4 k72 k46 k76 k93 (c3 k95 k102 k118)) (by kernel_rfl)
theorem k329:Shows Tryz.prog 58 (.h ⟨[.c (.sl 0 1 1 false),.c (.sl 1 0 2 false),.c (.t (n64 0))],[some (.var [.sl 1 0 2 false,.sl 2 0 2 false]),some (.rows 4 [o1,(w 2)] true false),some (.rows 4 [(w 3),(w 4)] true false)]⟩) (.h ⟨[],[some (.var [.sl 1 0 2 false,.sl 2 0 2 false]),some (.rows 4 [o1,(w 2)] true false),some (.rows 4 [[bF,lT [],bF,l1],(v 2)] true false)]⟩):=ex (.cons k72 (.cons k77 (.cons k328 .nil))) (by kernel_rfl)
open Go Go.Abs Go.Proofs
theorem k330:Shows Tryz.prog 57 (.h ⟨[.c (.sl 0 0 2 false),.c (.t (n64 1)),.c (.t (n64 1))],[some (.var [.sl 1 0 2 false,.sl 2 0 2 false]),some (.rows 4 [o1,(w 2)] true false),some (.rows 4 [[bF,lT [],bF,l1],(v 2)] true false)]⟩) (.h ⟨[.c (.t (n64 1))],[some (.var [.sl 1 0 2 false,.sl 2 0 2 false]),some (.rows 4 [o1,(w 2)] true false),some (.rows 4 [[bF,lT [],bF,l1],(v 2)] true false)]⟩):=ex (.cons k147 .nil) (by kernel_rfl)
theorem k331:AC 83 [x (lF [[bF,l1],[bT,lF [u 2]]])] [h [bT,lF [u 2]]] n1:=ex (c3 k55 k49 k211) (by kernel_rfl)
theorem k332:AC 35 [g o1,g (v 2)] [h (v 2)] n2:=ex (c4 k50 k116 k331 k56) (by kernel_rfl)
theorem k333:Shows Tryz.prog 58 (.h ⟨[.c (.sl 0 2 0 false),.c (.sl 1 0 2 false),.c (.t (n64 1))],[some (.var [.sl 2 0 2 false,.sl 1 0 2 false]),some (.rows 4 [[bF,lT [],bF,l1],(v 2)] true false),some (.rows 4 [o1,(w 2)] true false)]⟩) (.h ⟨[],[some (.var [.sl 2 0 2 false,.sl 1 0 2 false]),some (.rows 4 [[bF,lT [],bF,l1],(v 2)] true false),some (.rows 4 [o1,(w 2)] true false)]⟩):=ex (.nil) (by kernel_rfl)
theorem k334:AC 14 [x (lF [[lF [o1,(w 2)]],[lF [(w 3),(w 4)]]])] [h (v 2),y (n64 0)] n1:=ex (d4 k323 k324 k326 k327 (d4 k57 k329 k330 k332 (c1 k333))) (by kernel_rfl)
theorem k335:Shows Tryz.prog 54 (.h ⟨[.c (.t (lF [[lF [o1,(w 2)]],[lF [(w 2),(w 4)]]]))],[]⟩) (.h ⟨[.c (.t (bT))],[]⟩):=ex (.cons k251 .nil) (by kernel_rfl)
theorem k336:AC 56 [.bor 4 [o1,(w 2),o1,[bF,lT [],bF,l1]]] [.own 4 [o1,(w 2),o1,[bF,lT [],bF,l1]]] [some (.rows 4 [o1,(w 2),o1,[bF,lT [],bF,l1]] false false)]:=ex .nil (by kernel_rfl)
theorem k337:AC 56 [.bor 4 [(w 2),(w 4),[bF,lT [],bF,l1],o1]] [.own 4 [(w 2),(w 4),[bF,lT [],bF,l1],o1]] [some (.rows 4 [(w 2),(w 4),[bF,lT [],bF,l1],o1] false false)]:=ex .nil (by kernel_rfl)
theorem k338:Shows Tryz.prog 55 (.h ⟨[.c (.sl 0 0 2 false),.c (.t (.v (.func (.func 56) #[] #[])))],[some (.var [.sl 1 0 4 false,.sl 2 0 4 false]),some (.rows 4 [o1,(w 2),o1,[bF,lT [],bF,l1]] true false),some (.rows 4 [(w 2),(w 4),[bF,lT [],bF,l1],o1] true false)]⟩) (.h ⟨[.c (.sl 3 0 2 false)],[some (.var [.sl 1 0 4 false,.sl 2 0 4 false]),some (.rows 4 [o1,(w 2),o1,[bF,lT [],bF,l1]] true false),some (.rows 4 [(w 2),(w 4),[bF,lT [],bF,l1],o1] true false),some (.var [.sl 4 0 4 false,.sl 5 0 4 false]),some (.rows 4 [o1,(w 2),o1,[bF,lT [],bF,l1]] true false),some (.rows 4 [(w 2),(w 4),[bF,lT [],bF,l1],o1] true false)]⟩):=ex (.cons k336 (.cons k337 .nil)) (by kernel_rfl)
theorem k339:Shows Tryz.prog 80 (.h ⟨[.c (.sl 0 0 2 false)],[some (.var [.sl 1 0 4 false,.sl 2 0 4 false]),some (.rows 4 [o1,(w 2),o1,[bF,lT [],bF,l1]] true false),some (.rows 4 [(w 2),(w 4),[bF,lT [],bF,l1],o1] true false)]⟩) (.h ⟨[.c (.t (n64 4))],[some (.var [.sl 1 0 4 false,.sl 2 0 4 false]),some (.rows 4 [o1,(w 2),o1,[bF,lT [],bF,l1]] true false),some (.rows 4 [(w 2),(w 4),[bF,lT [],bF,l1],o1] true false)]⟩):=ex (.nil) (by kernel_rfl)
theorem k340:Shows Tryz.prog 57 (.h ⟨[.c (.sl 0 0 2 false),.c (.t (n64 0)),.c (.t (n64 0))],[some (.var [.sl 1 0 4 false,.sl 2 0 4 false]),some (.rows 4 [o1,(w 2),o1,[bF,lT [],bF,l1]] true false),some (.rows 4 [(w 2),(w 4),[bF,lT [],bF,l1],o1] true false)]⟩) (.h ⟨[.c (.t (n64 0))],[some (.var [.sl 1 0 4 false,.sl 2 0 4 false]),some (.rows 4 [o1,(w 2),o1,[bF,lT [],bF,l1]] true false),some (.rows 4 [(w 2),(w 4),[bF,lT [],bF,l1],o1] true false)]⟩):=ex (.cons k46 .nil) (by kernel_rfl)
theorem k341:AC 107 [x (lF [o1,(w 2),o1,[bF,lT [],bF,l1]]),.clo 108 [(2,(0,0))],.gh o1] [.own 4 [o1,(w 2),o1,[bF,lT [],bF,l1]]] [none,none,some (.var [.t (bF),.t (l1),.t (bF),.t (l1)])]:=ex (c3 k58 k63 k287) (by kernel_rfl)
theorem k342:Shows Tryz.prog 58 (.h ⟨[.c (.sl 0 0 0 false),.c (.sl 1 0 4 false),.c (.t (n64 0))],[some (.var [.sl 1 0 4 false,.sl 2 0 4 false]),some (.rows 4 [o1,(w 2),o1,[bF,lT [],bF,l1]] true false),some (.rows 4 [(w 2),(w 4),[bF,lT [],bF,l1],o1] true false)]⟩) (.h ⟨[],[some (.var [.sl 1 0 4 false,.sl 2 0 4 false]),some (.rows 4 [o1,(w 2),o1,[bF,lT [],bF,l1]] true false),some (.rows 4 [(w 2),(w 4),[bF,lT [],bF,l1],o1] true false)]⟩):=ex (.nil) (by kernel_rfl)
theorem k343:AC 83 [x (lF [[bF,lT []],[bF,l1]])] [h [bF,lT []]] n1:=ex (c3 k55 k176 k49) (by kernel_rfl)
theorem k344:AC 141 [x (lF [u 2]),x (lT [])] [y (lF [u 2])] n2:=ex (c1 k112) (by kernel_rfl)
theorem k345:AC 124 [g [bF,lT []],g [bT,lF [u 2]]] [h [bT,lF [u 2]]] n2:=ex (c3 k164 k344 k114) (by kernel_rfl)
theorem k346:AC 86 [g [bF,lT [],bF,l1],g (v 2)] [h (v 2)] n2:=ex (d4 k343 k212 k345 k56 (c1 k116)) (by kernel_rfl)
theorem k347:AC 126 [g [bF,lT [],bF,l1],g (w 2)] [h (v 2)] n2:=ex (c2 k210 k346) (by kernel_rfl)
theorem k348:AC 94 [.bor 4 [(w 2),(w 4),[bF,lT [],bF,l1],o1],g (w 2),.bor 4 [o1,(w 2),o1,[bF,lT [],bF,l1]]] [] [some (.rows 4 [[bF,lT [],bF,l1],[bF,lT [],bF,l1],(v 2),o1] false false),none,some (.rows 4 [o1,(w 2),o1,[bF,lT [],bF,l1]] false false)]:=ex (d4 k95 k46 k205 k216 (c4 k265 k275 k347 k208)) (by kernel_rfl)
theorem k349:Shows Tryz.prog 58 (.h ⟨[.c (.sl 0 1 1 false),.c (.sl 1 0 4 false),.c (.t (n64 0))],[some (.var [.sl 1 0 4 false,.sl 2 0 4 false]),some (.rows 4 [o1,(w 2),o1,[bF,lT [],bF,l1]] true false),some (.rows 4 [(w 2),(w 4),[bF,lT [],bF,l1],o1] true false)]⟩) (.h ⟨[],[some (.var [.sl 1 0 4 false,.sl 2 0 4 false]),some (.rows 4 [o1,(w 2),o1,[bF,lT [],bF,l1]] true false),some (.rows 4 [[bF,lT [],bF,l1],[bF,lT [],bF,l1],(v 2),o1] true false)]⟩):=ex (.cons k95 (.cons k206 (.cons k348 .nil))) (by kernel_rfl)
theorem k350:Shows Tryz.prog 57 (.h ⟨[.c (.sl 0 0 2 false),.c (.t (n64 1)),.c (.t (n64 1))],[some (.var [.sl 1 0 4 false,.sl 2 0 4 false]),some (.rows 4 [o1,(w 2),o1,[bF,lT [],bF,l1]] true false),some (.rows 4 [[bF,lT [],bF,l1],[bF,lT [],bF,l1],(v 2),o1] true false)]⟩) (.h ⟨[.c (.t (n64 (-1)))],[some (.var [.sl 1 0 4 false,.sl 2 0 4 false]),some (.rows 4 [o1,(w 2),o1,[bF,lT [],bF,l1]] true false),some (.rows 4 [[bF,lT [],bF,l1],[bF,lT [],bF,l1],(v 2),o1] true false)]⟩):=ex (.cons k208 .nil) (by kernel_rfl)
theorem k351:Shows Tryz.prog 57 (.h ⟨[.c (.sl 0 0 2 false),.c (.t (n64 1)),.c (.t (n64 2))],[some (.var [.sl 1 0 4 false,.sl 2 0 4 false]),some (.rows 4 [o1,(w 2),o1,[bF,lT [],bF,l1]] true false),some (.rows 4 [[bF,lT [],bF,l1],[bF,lT [],bF,l1],(v 2),o1] true false)]⟩) (.h ⟨[.c (.t (n64 1))],[some (.var [.sl 1 0 4 false,.sl 2 0 4 false]),some (.rows 4 [o1,(w 2),o1,[bF,lT [],bF,l1]] true false),some (.rows 4 [[bF,lT [],bF,l1],[bF,lT [],bF,l1],(v 2),o1] true false)]⟩):=ex (.cons k147 .nil) (by kernel_rfl)
theorem k352:AC 138 [x l1] [y (w64 1)] n1:=ex .nil (by kernel_rfl)
theorem k353:AC 119 [g [bF,l1],g [bF,lF [u 2]]] [h [bF,l1]] n2:=ex (d4 k53 k149 k112 k152 (c4 k352 k160 k52 k54)) (by kernel_rfl)
theorem k354:AC 82 [g [bF,l1],g [bF,lF [u 2]]] [h [bF,l1,bF,lF [u 2]]] n2:=ex (c3 k60 k353 k49) (by kernel_rfl)
theorem k355:AC 35 [g [bT,l1,bF,lF [u 2]],g o1] [h [bT,l1,bF,lF [u 2]]] n2:=ex (c4 k156 k354 k291 k61) (by kernel_rfl)
theorem k356:AC 108 [g o1,.ref [bT,l1,bF,lF [u 2]]] [h [bT,l1,bF,lF [u 2]]] [none,some (.var [.t (bT),.t (l1),.t (bF),.t (lF [u 2])])]:=ex (c1 k355) (by kernel_rfl)
theorem k357:AC 107 [x (lF [[bF,lT [],bF,l1],[bF,lT [],bF,l1],(v 2),o1]),.clo 108 [(2,(0,0))],.gh [bT,l1,bF,lF [u 2]]] [.own 4 [[bF,lT [],bF,l1],[bF,lT [],bF,l1],o1,[bT,l1,bF,lF [u 2]]]] [none,none,some (.var [.t (bT),.t (l1),.t (bF),.t (lF [u 2])])]:=ex (c3 k182 k190 k356) (by kernel_rfl)
theorem k358:AC 84 [g [bT,l1]] [y (n64 (-1))] n1:=ex .nil (by kernel_rfl)
theorem k359:AC 36 [g [bT,l1,bF,lF [u 2]]] [y (n64 (-1))] n1:=ex (c1 k358) (by kernel_rfl)
theorem k360:AC 83 [x (lF [[bF,l1],[bT,l1]])] [h [bT,l1]] n1:=ex (c3 k55 k49 k175) (by kernel_rfl)
theorem k361:AC 35 [g o1,g [bT,l1,bF,lF [u 2]]] [h [bT,l1,bF,lF [u 2]]] n2:=ex (c4 k354 k156 k360 k204) (by kernel_rfl)
theorem k362:AC 85 [g [bT,l1]] [h [bF,l1]] n1:=ex (c2 k149 k54) (by kernel_rfl)
theorem k363:AC 38 [g [bT,l1,bF,lF [u 2]]] [h [bF,l1,bF,lF [u 2]]] n1:=ex (c1 k362) (by kernel_rfl)
theorem k364:AC 142 [x (lT []),x (lF [u 2])] [y (lF [])] n2:=ex (c1 k86) (by kernel_rfl)
theorem k365:AC 121 [g [bF,lT []],g [bF,lF [u 2]]] [h [bF,lT []]] n2:=ex (c2 k364 k89) (by kernel_rfl)
theorem k366:AC 83 [x (lF [[bF,lT []],[bF,lF [u 2]]])] [h [bF,lT []]] n1:=ex (d4 k55 k176 k49 k60 (c1 k365)) (by kernel_rfl)
theorem k367:AC 140 [x (lT []),x l1] [y l1] n2:=ex (c1 k51) (by kernel_rfl)
theorem k368:AC 124 [g [bF,lT []],g [bF,l1]] [h [bF,l1]] n2:=ex (c2 k367 k54) (by kernel_rfl)
theorem k369:AC 86 [g [bF,lT [],bF,l1],g [bF,l1,bF,lF [u 2]]] [h [bF,l1,bF,lF [u 2]]] n2:=ex (d4 k366 k56 k368 k61 (c1 k354)) (by kernel_rfl)
theorem k370:AC 126 [g [bF,lT [],bF,l1],g [bT,l1,bF,lF [u 2]]] [h [bF,l1,bF,lF [u 2]]] n2:=ex (c2 k363 k369) (by kernel_rfl)
theorem k371:AC 94 [.bor 4 [o1,(w 2),o1,[bF,lT [],bF,l1]],g o1,.bor 4 [[bF,lT [],bF,l1],[bF,lT [],bF,l1],o1,[bT,l1,bF,lF [u 2]]]] [] [some (.rows 4 [o1,(w 2),[bF,lT [],bF,l1],[bF,l1,bF,lF [u 2]]] false false),none,some (.rows 4 [[bF,lT [],bF,l1],[bF,lT [],bF,l1],o1,[bT,l1,bF,lF [u 2]]] false false)]:=ex (d4 k46 k208 k57 k296 (c3 k359 k361 k370)) (by kernel_rfl)
theorem k372:Shows Tryz.prog 58 (.h ⟨[.c (.sl 0 0 1 false),.c (.sl 1 0 4 false),.c (.t (n64 2))],[some (.var [.sl 2 0 4 false,.sl 1 0 4 false]),some (.rows 4 [[bF,lT [],bF,l1],[bF,lT [],bF,l1],o1,[bT,l1,bF,lF [u 2]]] true false),some (.rows 4 [o1,(w 2),o1,[bF,lT [],bF,l1]] true false)]⟩) (.h ⟨[],[some (.var [.sl 2 0 4 false,.sl 1 0 4 false]),some (.rows 4 [[bF,lT [],bF,l1],[bF,lT [],bF,l1],o1,[bT,l1,bF,lF [u 2]]] true false),some (.rows 4 [o1,(w 2),[bF,lT [],bF,l1],[bF,l1,bF,lF [u 2]]] true false)]⟩):=ex (.cons k46 (.cons k289 (.cons k371 .nil))) (by kernel_rfl)
theorem k373:Shows Tryz.prog 58 (.h ⟨[.c (.sl 0 2 0 false),.c (.sl 1 0 4 false),.c (.t (n64 2))],[some (.var [.sl 2 0 4 false,.sl 1 0 4 false]),some (.rows 4 [[bF,lT [],bF,l1],[bF,lT [],bF,l1],o1,[bT,l1,bF,lF [u 2]]] true false),some (.rows 4 [o1,(w 2),[bF,lT [],bF,l1],[bF,l1,bF,lF [u 2]]] true false)]⟩) (.h ⟨[],[some (.var [.sl 2 0 4 false,.sl 1 0 4 false]),some (.rows 4 [[bF,lT [],bF,l1],[bF,lT [],bF,l1],o1,[bT,l1,bF,lF [u 2]]] true false),some (.rows 4 [o1,(w 2),[bF,lT [],bF,l1],[bF,l1,bF,lF [u 2]]] true false)]⟩):=ex (.nil) (by kernel_rfl)
theorem k374:Shows Tryz.prog 57 (.h ⟨[.c (.sl 0 0 2 false),.c (.t (n64 2)),.c (.t (n64 3))],[some (.var [.sl 1 0 4 false,.sl 2 0 4 false]),some (.rows 4 [o1,(w 2),[bF,lT [],bF,l1],[bF,l1,bF,lF [u 2]]] true false),some (.rows 4 [[bF,lT [],bF,l1],[bF,lT [],bF,l1],o1,[bT,l1,bF,lF [u 2]]] true false)]⟩) (.h ⟨[.c (.t (n64 (-1)))],[some (.var [.sl 1 0 4 false,.sl 2 0 4 false]),some (.rows 4 [o1,(w 2),[bF,lT [],bF,l1],[bF,l1,bF,lF [u 2]]] true false),some (.rows 4 [[bF,lT [],bF,l1],[bF,lT [],bF,l1],o1,[bT,l1,bF,lF [u 2]]] true false)]⟩):=ex (.nil) (by kernel_rfl)
theorem k375:Shows Tryz.prog 61 (.h ⟨[.c (.sl 0 0 2 false)],[some (.var [.sl 1 0 4 false,.sl 2 0 4 false]),some (.rows 4 [o1,(w 2),o1,[bF,lT [],bF,l1]] true false),some (.rows 4 [(w 2),(w 4),[bF,lT [],bF,l1],o1] true false)]⟩) (.h ⟨[.c (.sl 3 0 2 false),.c (.sl 4 0 2 false)],[some (.var [.sl 1 0 4 false,.sl 2 0 4 false]),some (.rows 4 [o1,(w 2),o1,[bF,lT [],bF,l1]] true false),some (.rows 4 [(w 2),(w 4),[bF,lT [],bF,l1],o1] true false),some (.var [.sl 5 0 4 false,.sl 6 0 4 false]),some (.rows 1 [[n64 0],[n64 2]] true false),some (.rows 4 [o1,(w 2),[bF,lT [],bF,l1],[bF,l1,bF,lF [u 2]]] true false),some (.rows 4 [[bF,lT [],bF,l1],[bF,lT [],bF,l1],o1,[bT,l1,bF,lF [u 2]]] true false)]⟩):=ex (.cons k338 (.cons k339 (.cons k340 (.cons k48 (.cons k341 (.cons k342 (.cons k349 (.cons k350 (.cons k351 (.cons k155 (.cons k357 (.cons k372 (.cons k373 (.cons k374 .nil)))))))))))))) (by kernel_rfl)
theorem k376:AC 16 [x (lF [[lF [o1,(w 2)]],[lF [(w 2),(w 4)]]])] [y (lT []),y (n64 110)] n1:=ex (d4 k335 k247 k326 k39 (c2 k252 k375)) (by kernel_rfl)
theorem k377:AC 110 [x (lF [o1,(w 2)])] [.own 4 [o1,(w 2)]] n1:=ex .nil (by kernel_rfl)
theorem k378:AC 110 [x (lF [(w 3),(w 4)])] [.own 4 [(w 3),(w 4)]] n1:=ex .nil (by kernel_rfl)
theorem k379:Shows Tryz.prog 55 (.h ⟨[.c (.t (lF [[lF [o1,(w 2)]],[lF [(w 3),(w 4)]]])),.c (.t (.v (.func (.func 110) #[] #[])))],[]⟩) (.h ⟨[.c (.sl 0 0 2 false)],[some (.var [.sl 1 0 2 false,.sl 2 0 2 false]),some (.rows 4 [o1,(w 2)] true false),some (.rows 4 [(w 3),(w 4)] true false)]⟩):=ex (.cons k377 (.cons k378 .nil)) (by kernel_rfl)
theorem k380:AC 65 [x (lF [[lF [o1,(w 2)]],[lF [(w 3),(w 4)]]])] [y (lF [[lF [o1,(w 2)]],[lF [(w 3),(w 4)]]])] n1:=ex (c1 k379) (by kernel_rfl)
theorem k381:AC 88 [x (n64 2)] [.own 4 [[bF,lT [],bF,l1],[bF,lT [],bF,l1]]] n1:=ex (c1 k246) (by kernel_rfl)
theorem k382:AC 36 [g o2] [y (n64 (-1))] n1:=ex (c1 k358) (by kernel_rfl)
theorem k383:AC 35 [g o2,g o1] [h o2] n2:=ex (c4 k156 k50 k291 k56) (by kernel_rfl)
theorem k384:AC 136 [x (lT []),x l1] [y (n64 (-1))] n2:=ex .nil (by kernel_rfl)
theorem k385:AC 141 [x l1,x (lT [])] [y l1] n2:=ex (c1 k53) (by kernel_rfl)
theorem k386:AC 124 [g [bF,lT []],g [bT,l1]] [h [bT,l1]] n2:=ex (c3 k384 k385 k150) (by kernel_rfl)
theorem k387:AC 86 [g [bF,lT [],bF,l1],g o2] [h o2] n2:=ex (d4 k343 k291 k386 k56 (c1 k156)) (by kernel_rfl)
theorem k388:AC 89 [.bor 4 [[bF,lT [],bF,l1],[bF,lT [],bF,l1]],g o2,x (lF [o1]),x (n64 0)] [] [some (.rows 4 [o2,[bF,lT [],bF,l1]] false false),none,none,none]:=ex (c4 k382 k46 k383 k387) (by kernel_rfl)
theorem k389:AC 86 [g [bF,lT [],bF,l1],g o1] [h o1] n2:=ex (c4 k343 k56 k368 k50) (by kernel_rfl)
theorem k390:AC 89 [.bor 4 [o2,[bF,lT [],bF,l1]],g o1,x (lF [o1]),x (n64 1)] [] [some (.rows 4 [o2,o1] false false),none,none,none]:=ex (c3 k46 k57 k389) (by kernel_rfl)
theorem k391:AC 90 [x (lF [o2,o1])] [y (lF [o2,o1])] n1:=ex (c1 k46) (by kernel_rfl)
theorem k392:AC 42 [x (lF [o2,o1]),x (lF [o1])] [y (lF [o2,o1])] n2:=ex (c4 k381 k388 k390 k391) (by kernel_rfl)
theorem k393:AC 88 [x (n64 3)] [.own 4 [[bF,lT [],bF,l1],[bF,lT [],bF,l1],[bF,lT [],bF,l1]]] n1:=ex (c1 k246) (by kernel_rfl)
theorem k394:AC 84 [g [bT,lF [u 4]]] [y (n64 (-1))] n1:=ex .nil (by kernel_rfl)
theorem k395:AC 36 [g (v 4)] [y (n64 (-1))] n1:=ex (c1 k394) (by kernel_rfl)
theorem k396:AC 142 [x (lF [u 4]),x l1] [y (lF [u 4])] n2:=ex (c1 k260) (by kernel_rfl)
theorem k397:AC 121 [g [bT,lF [u 4]],g [bT,l1]] [h [bF,lF [u 4]]] n2:=ex (c2 k396 k262) (by kernel_rfl)
theorem k398:AC 83 [x (lF [[bT,lF [u 4]],[bT,l1]])] [h [bF,lF [u 4]]] n1:=ex (d4 k55 k269 k49 k175 (c1 k397)) (by kernel_rfl)
theorem k399:AC 35 [g (v 4),g o2] [h (w 4)] n2:=ex (c4 k234 k156 k398 k56) (by kernel_rfl)
theorem k400:AC 140 [x (lT []),x (lF [u 4])] [y (lF [u 4])] n2:=ex (c1 k260) (by kernel_rfl)
theorem k401:AC 124 [g [bF,lT []],g [bF,lF [u 4]]] [h [bF,lF [u 4]]] n2:=ex (c2 k400 k262) (by kernel_rfl)
theorem k402:AC 82 [g [bF,lF [u 4]],g [bF,l1]] [h (w 4)] n2:=ex (c1 k49) (by kernel_rfl)
theorem k403:AC 86 [g [bF,lT [],bF,l1],g (w 4)] [h (w 4)] n2:=ex (d4 k343 k108 k401 k56 (c1 k402)) (by kernel_rfl)
theorem k404:AC 35 [g (v 4),g o1] [h (v 4)] n2:=ex (c4 k234 k50 k270 k56) (by kernel_rfl)
theorem k405:AC 136 [x (lT []),x (lF [u 4])] [y (n64 (-1))] n2:=ex .nil (by kernel_rfl)
theorem k406:AC 141 [x (lF [u 4]),x (lT [])] [y (lF [u 4])] n2:=ex (c1 k230) (by kernel_rfl)
theorem k407:AC 124 [g [bF,lT []],g [bT,lF [u 4]]] [h [bT,lF [u 4]]] n2:=ex (c3 k405 k406 k232) (by kernel_rfl)
theorem k408:AC 86 [g [bF,lT [],bF,l1],g (v 4)] [h (v 4)] n2:=ex (d4 k343 k270 k407 k56 (c1 k234)) (by kernel_rfl)
theorem k409:AC 89 [.bor 4 [[bF,lT [],bF,l1],[bF,lT [],bF,l1],[bF,lT [],bF,l1]],g (v 4),x (lF [o2,o1]),x (n64 0)] [] [some (.rows 4 [(w 4),(v 4),[bF,lT [],bF,l1]] false false),none,none,none]:=ex (d4 k395 k382 k399 k403 (c3 k46 k404 k408)) (by kernel_rfl)
theorem k410:AC 35 [g o1,g o2] [h o2] n2:=ex (c4 k50 k156 k360 k56) (by kernel_rfl)
theorem k411:AC 137 [x (lF [u 5,u 0])] [y (lF [u 5])] n1:=ex .nil (by kernel_rfl)
theorem k412:AC 140 [x (lF [u 4]),x l1] [y (lF [u 5])] n2:=ex (c1 k411) (by kernel_rfl)
theorem k413:AC 137 [x (lF [u 5])] [y (lF [u 5])] n1:=ex .nil (by kernel_rfl)
theorem k414:AC 122 [x bT,x (lF [u 5])] [h [bT,lF [u 5]]] n2:=ex (c1 k413) (by kernel_rfl)
theorem k415:AC 124 [g [bT,lF [u 4]],g [bT,l1]] [h [bT,lF [u 5]]] n2:=ex (c2 k412 k414) (by kernel_rfl)
theorem k416:AC 82 [g [bT,lF [u 5]],g [bF,l1]] [h (v 5)] n2:=ex (c1 k49) (by kernel_rfl)
theorem k417:AC 86 [g (v 4),g o2] [h (v 5)] n2:=ex (d4 k270 k291 k415 k56 (c1 k416)) (by kernel_rfl)
theorem k418:AC 89 [.bor 4 [(w 4),(v 4),[bF,lT [],bF,l1]],g o1,x (lF [o2,o1]),x (n64 1)] [] [some (.rows 4 [(w 4),(v 5),o1] false false),none,none,none]:=ex (d4 k46 k382 k410 k417 (c2 k57 k389)) (by kernel_rfl)
theorem k419:AC 90 [x (lF [(w 4),(v 5),o1])] [y (lF [(w 4),(v 5),o1])] n1:=ex (c1 k46) (by kernel_rfl)
theorem k420:AC 42 [x (lF [(v 4),o1]),x (lF [o2,o1])] [y (lF [(w 4),(v 5),o1])] n2:=ex (c4 k393 k409 k418 k419) (by kernel_rfl)
theorem k421:AC 88 [x (n64 1)] [.own 4 [[bF,lT [],bF,l1]]] n1:=ex (c1 k246) (by kernel_rfl)
theorem k422:AC 84 [g [bF,lF [u 6]]] [y (n64 1)] n1:=ex .nil (by kernel_rfl)
theorem k423:AC 36 [g (w 6)] [y (n64 1)] n1:=ex (c1 k422) (by kernel_rfl)
theorem k424:AC 82 [g [bF,lF [u 6]],g [bF,l1]] [h (w 6)] n2:=ex (c1 k49) (by kernel_rfl)
theorem k425:AC 35 [g (w 6),g o1] [h (w 6)] n2:=ex (c4 k424 k50 k133 k56) (by kernel_rfl)
theorem k426:AC 140 [x (lT []),x (lF [u 6])] [y (lF [u 6])] n2:=ex (c1 k96) (by kernel_rfl)
theorem k427:AC 124 [g [bF,lT []],g [bF,lF [u 6]]] [h [bF,lF [u 6]]] n2:=ex (c2 k426 k99) (by kernel_rfl)
theorem k428:AC 86 [g [bF,lT [],bF,l1],g (w 6)] [h (w 6)] n2:=ex (d4 k343 k133 k427 k56 (c1 k424)) (by kernel_rfl)
theorem k429:AC 89 [.bor 4 [[bF,lT [],bF,l1]],g (w 6),x (lF [o1]),x (n64 0)] [] [some (.rows 4 [(w 6)] false false),none,none,none]:=ex (c4 k423 k46 k425 k428) (by kernel_rfl)
theorem k430:AC 90 [x (lF [(w 6)])] [y (lF [(w 6)])] n1:=ex (c1 k423) (by kernel_rfl)
theorem k431:AC 67 [g (w 6),x (lF [o1])] [y (lF [(w 6)])] n2:=ex (c3 k421 k429 k430) (by kernel_rfl)
theorem k432:AC 92 [x (n64 (-1))] [h [bT,l1]] n1:=ex (c2 k52 k150) (by kernel_rfl)
theorem k433:AC 91 [g [bT,l1]] [h o2] n1:=ex (c1 k55) (by kernel_rfl)
theorem k434:AC 41 [x (n64 (-1))] [h o2] n1:=ex (c2 k432 k433) (by kernel_rfl)
theorem k435:AC 142 [x l1,x (lF [u 6])] [y (lF [u 6])] n2:=ex (c1 k96) (by kernel_rfl)
theorem k436:AC 121 [g [bT,l1],g [bF,lF [u 6]]] [h [bT,lF [u 6]]] n2:=ex (c2 k435 k104) (by kernel_rfl)
theorem k437:AC 83 [x (lF [[bT,l1],[bF,lF [u 6]]])] [h [bT,lF [u 6]]] n1:=ex (d4 k55 k175 k49 k132 (c1 k436)) (by kernel_rfl)
theorem k438:AC 35 [g o2,g (w 6)] [h (v 6)] n2:=ex (c4 k156 k424 k437 k56) (by kernel_rfl)
theorem k439:AC 89 [.bor 4 [(w 4),(v 5),o1],g o2,x (lF [(w 6)]),x (n64 0)] [] [some (.rows 4 [(v 2),(v 5),o1] false false),none,none,none]:=ex (c4 k382 k423 k438 k117) (by kernel_rfl)
open Go Go.Abs Go.Proofs
theorem k440:AC 90 [x (lF [(v 2),(v 5),o1])] [y (lF [(v 2),(v 5),o1])] n1:=ex (c1 k46) (by kernel_rfl)
theorem k441:AC 111 [x (lF [(w 4),(v 5),o1]),g o2,x (lF [(w 6)]),x (n64 0)] [y (lF [(v 2),(v 5),o1])] n4:=ex (c3 k393 k439 k440) (by kernel_rfl)
theorem k442:AC 66 [x (lF [(w 4),(v 5),o1]),x (lF [(w 6)])] [y (lF [(v 2),(v 5),o1])] n2:=ex (c2 k434 k441) (by kernel_rfl)
theorem k443:AC 20 [x (lF [[lF [o1,(w 2)]],[lF [(w 3),(w 4)]]])] [y (lF [(v 2),(v 5),o1]),y (n64 0)] n1:=ex (d4 k323 k380 k326 k290 (d4 k392 k268 k420 k312 (c3 k102 k431 k442))) (by kernel_rfl)
theorem k444:AC 143 [x (lF [u 0,u 0])] [y (lF [])] n1:=ex .nil (by kernel_rfl)
theorem k445:AC 129 [x (w64 0)] [y (lF [])] n1:=ex (c1 k444) (by kernel_rfl)
theorem k446:AC 143 [x (lF [])] [y (lF [])] n1:=ex .nil (by kernel_rfl)
theorem k447:AC 128 [x bF,x (lF [])] [h [bF,lF []]] n2:=ex (c1 k446) (by kernel_rfl)
theorem k448:AC 101 [x (n64 0)] [h [bF,lF []]] n1:=ex (c2 k445 k447) (by kernel_rfl)
theorem k449:AC 53 [x (n64 0)] [h o0] n1:=ex (c2 k448 k4) (by kernel_rfl)
theorem k450:AC 50 [x (lF [[n64 2],[n64 0],[n64 0],[n64 2]])] [y (lF [[lF [(w 2),o0]],[lF [o0,(w 2)]]])] n1:=ex (c2 k11 k449) (by kernel_rfl)
theorem k451:Shows Tryz.prog 80 (.h ⟨[.c (.t (lF [[lF [(w 2),o0]],[lF [o0,(w 2)]]]))],[]⟩) (.h ⟨[.c (.t (n64 2))],[]⟩):=ex (.nil) (by kernel_rfl)
theorem k452:Shows Tryz.prog 54 (.h ⟨[.c (.t (lF [[lF [(w 2),o0]],[lF [o0,(w 2)]]]))],[]⟩) (.h ⟨[.c (.t (bT))],[]⟩):=ex (.cons k451 .nil) (by kernel_rfl)
theorem k453:AC 84 [g [bF,lF []]] [y (n64 0)] n1:=ex .nil (by kernel_rfl)
theorem k454:AC 36 [g o0] [y (n64 0)] n1:=ex (c1 k453) (by kernel_rfl)
theorem k455:AC 115 [x (lF [[lF [(w 2),o0]],[lF [o0,(w 2)]]]),x (lF [[bF,lT [],bF,l1],[bF,lT [],bF,l1]])] [.own 4 [[bF,lT [],bF,l1],[bF,lT [],bF,l1]]] n2:=ex (c4 k247 k95 k208 k454) (by kernel_rfl)
theorem k456:AC 38 [g o2] [h o1] n1:=ex (c1 k362) (by kernel_rfl)
theorem k457:AC 126 [g [bF,lT [],bF,l1],g o2] [h o1] n2:=ex (c2 k456 k389) (by kernel_rfl)
theorem k458:AC 94 [.bor 4 [[bF,lT [],bF,l1],[bF,lT [],bF,l1]],g o2,x (lF [o1,[bF,lT [],bF,l1]])] [] [some (.rows 4 [o1,[bF,lT [],bF,l1]] false false),none,none]:=ex (d4 k382 k46 k383 k457 (c1 k208)) (by kernel_rfl)
theorem k459:AC 74 [x (lF [o1]),x (lF [[lF [(w 2),o0]],[lF [o0,(w 2)]]]),x (lF [o1,[bF,lT [],bF,l1]])] [.own 4 [o1,[bF,lT [],bF,l1]]] [none,none,none]:=ex (c4 k247 k455 k290 k458) (by kernel_rfl)
theorem k460:AC 114 [g o1,.ref o1] [h o1] [none,some (.var [.t (bF),.t (l1),.t (bF),.t (l1)])]:=ex (c1 k57) (by kernel_rfl)
theorem k461:AC 114 [g [bF,lT [],bF,l1],.ref o1] [h [bF,lT [],bF,l1]] [none,some (.var [.t (bF),.t (l1),.t (bF),.t (l1)])]:=ex (c1 k286) (by kernel_rfl)
theorem k462:AC 107 [x (lF [o1,[bF,lT [],bF,l1]]),.clo 114 [(2,(0,0))],.gh o1] [.own 4 [o1,[bF,lT [],bF,l1]]] [none,none,some (.var [.t (bF),.t (l1),.t (bF),.t (l1)])]:=ex (c2 k460 k461) (by kernel_rfl)
theorem k463:AC 89 [.bor 4 [[bF,lT [],bF,l1]],g o1,x (lF [o1]),x (n64 0)] [] [some (.rows 4 [o1] false false),none,none,none]:=ex (c3 k46 k57 k389) (by kernel_rfl)
theorem k464:AC 90 [x (lF [o1])] [y (lF [o1])] n1:=ex (c1 k46) (by kernel_rfl)
theorem k465:AC 67 [g o1,x (lF [o1])] [y (lF [o1])] n2:=ex (c3 k421 k463 k464) (by kernel_rfl)
theorem k466:AC 140 [x (lT []),x (lF [u 2])] [y (lF [u 2])] n2:=ex (c1 k161) (by kernel_rfl)
theorem k467:AC 124 [g [bF,lT []],g [bF,lF [u 2]]] [h [bF,lF [u 2]]] n2:=ex (c2 k466 k153) (by kernel_rfl)
theorem k468:AC 86 [g [bF,lT [],bF,l1],g (w 2)] [h (w 2)] n2:=ex (d4 k343 k204 k467 k56 (c1 k59)) (by kernel_rfl)
theorem k469:AC 115 [x (lF [[lF [(w 2),o0]],[lF [o0,(w 2)]]]),x (lF [o1,[bF,lT [],bF,l1]])] [.own 4 [(w 2),[bF,lT [],bF,l1]]] n2:=ex (d4 k247 k95 k46 k205 (c3 k468 k454 k208)) (by kernel_rfl)
theorem k470:AC 89 [.bor 4 [[bF,lT [],bF,l1],[bF,lT [],bF,l1]],g o1,x (lF [[bF,lT [],bF,l1],o1]),x (n64 0)] [] [some (.rows 4 [[bF,lT [],bF,l1],o1] false false),none,none,none]:=ex (c4 k46 k208 k57 k389) (by kernel_rfl)
theorem k471:AC 90 [x (lF [[bF,lT [],bF,l1],o1])] [y (lF [[bF,lT [],bF,l1],o1])] n1:=ex (c1 k46) (by kernel_rfl)
theorem k472:AC 42 [x (lF [o1]),x (lF [[bF,lT [],bF,l1],o1])] [y (lF [[bF,lT [],bF,l1],o1])] n2:=ex (c3 k381 k470 k471) (by kernel_rfl)
theorem k473:AC 94 [.bor 4 [(w 2),[bF,lT [],bF,l1]],g (w 2),x (lF [o1,[bF,lT [],bF,l1]])] [] [some (.rows 4 [[bF,lT [],bF,l1],[bF,lT [],bF,l1]] false false),none,none]:=ex (d4 k95 k46 k205 k216 (c1 k208)) (by kernel_rfl)
theorem k474:AC 89 [.bor 4 [[bF,lT [],bF,l1]],g (w 2),x (lF [o1]),x (n64 0)] [] [some (.rows 4 [(w 2)] false false),none,none,none]:=ex (c4 k95 k46 k205 k468) (by kernel_rfl)
theorem k475:AC 90 [x (lF [(w 2)])] [y (lF [(w 2)])] n1:=ex (c1 k95) (by kernel_rfl)
theorem k476:AC 67 [g (w 2),x (lF [o1])] [y (lF [(w 2)])] n2:=ex (c3 k421 k474 k475) (by kernel_rfl)
theorem k477:AC 142 [x l1,x (lF [u 2])] [y (lF [u 2])] n2:=ex (c1 k161) (by kernel_rfl)
theorem k478:AC 121 [g [bT,l1],g [bF,lF [u 2]]] [h [bT,lF [u 2]]] n2:=ex (c2 k477 k114) (by kernel_rfl)
theorem k479:AC 83 [x (lF [[bT,l1],[bF,lF [u 2]]])] [h [bT,lF [u 2]]] n1:=ex (d4 k55 k175 k49 k60 (c1 k478)) (by kernel_rfl)
theorem k480:AC 35 [g o2,g (w 2)] [h (v 2)] n2:=ex (c4 k156 k59 k479 k56) (by kernel_rfl)
theorem k481:AC 89 [.bor 4 [[bF,lT [],bF,l1],o1],g o2,x (lF [(w 2)]),x (n64 0)] [] [some (.rows 4 [(v 2),o1] false false),none,none,none]:=ex (c4 k382 k95 k480 k346) (by kernel_rfl)
theorem k482:AC 90 [x (lF [(v 2),o1])] [y (lF [(v 2),o1])] n1:=ex (c1 k46) (by kernel_rfl)
theorem k483:AC 111 [x (lF [[bF,lT [],bF,l1],o1]),g o2,x (lF [(w 2)]),x (n64 0)] [y (lF [(v 2),o1])] n4:=ex (c3 k381 k481 k482) (by kernel_rfl)
theorem k484:AC 66 [x (lF [[bF,lT [],bF,l1],o1]),x (lF [(w 2)])] [y (lF [(v 2),o1])] n2:=ex (c2 k434 k483) (by kernel_rfl)
theorem k485:AC 89 [.bor 4 [[bF,lT [],bF,l1],[bF,lT [],bF,l1]],g o1,x (lF [(v 2),o1]),x (n64 0)] [] [some (.rows 4 [(v 2),o1] false false),none,none,none]:=ex (d4 k46 k147 k332 k346 (c2 k57 k389)) (by kernel_rfl)
theorem k486:AC 67 [g o1,x (lF [(v 2),o1])] [y (lF [(v 2),o1])] n2:=ex (c3 k381 k485 k482) (by kernel_rfl)
theorem k487:AC 113 [x (lF [(v 2),o1])] [y (lF [(v 2),o1])] n1:=ex (c2 k48 k486) (by kernel_rfl)
theorem k488:AC 73 [x (lF [[lF [(w 2),o0]],[lF [o0,(w 2)]]]),x (lF [o1,[bF,lT [],bF,l1]])] [y (lF [(v 2),o1])] n2:=ex (d4 k326 k246 k46 k48 (d4 k462 k465 k469 k472 (d4 k473 k476 k484 k208 (c1 k487)))) (by kernel_rfl)
theorem k489:AC 42 [x (lF [o1]),x (lF [(v 2),o1])] [y (lF [(v 2),o1])] n2:=ex (c3 k381 k485 k482) (by kernel_rfl)
theorem k490:AC 94 [.bor 4 [[bF,lT [],bF,l1],[bF,lT [],bF,l1]],g o2,x (lF [[bF,lT [],bF,l1],o1])] [] [some (.rows 4 [[bF,lT [],bF,l1],o1] false false),none,none]:=ex (d4 k382 k208 k46 k383 (c1 k457)) (by kernel_rfl)
theorem k491:AC 115 [x (lF [[lF [(w 2),o0]],[lF [o0,(w 2)]]]),x (lF [[bF,lT [],bF,l1],o1])] [.own 4 [[bF,lT [],bF,l1],(w 2)]] n2:=ex (d4 k247 k95 k208 k454 (c3 k46 k205 k468)) (by kernel_rfl)
theorem k492:AC 38 [g (v 2)] [h (w 2)] n1:=ex (c1 k154) (by kernel_rfl)
theorem k493:AC 94 [.bor 4 [[bF,lT [],bF,l1],(w 2)],g (w 2),x (lF [[bF,lT [],bF,l1],o1])] [] [some (.rows 4 [[bF,lT [],bF,l1],[bF,lT [],bF,l1]] false false),none,none]:=ex (d4 k95 k208 k46 k205 (c1 k216)) (by kernel_rfl)
theorem k494:AC 74 [x (lF [(v 2),o1]),x (lF [[lF [(w 2),o0]],[lF [o0,(w 2)]]]),x (lF [[bF,lT [],bF,l1],o1])] [.own 4 [[bF,lT [],bF,l1],[bF,lT [],bF,l1]]] [none,none,none]:=ex (d4 k247 k455 k290 k490 (c3 k491 k492 k493)) (by kernel_rfl)
theorem k495:AC 113 [x (lF [o1])] [y (lF [o1])] n1:=ex (c2 k48 k465) (by kernel_rfl)
theorem k496:AC 73 [x (lF [[lF [(w 2),o0]],[lF [o0,(w 2)]]]),x (lF [[bF,lT [],bF,l1],[bF,lT [],bF,l1]])] [y (lF [o1])] n2:=ex (c4 k326 k246 k208 k495) (by kernel_rfl)
theorem k497:AC 35 [g (v 2),g o1] [h (v 2)] n2:=ex (c4 k116 k50 k212 k56) (by kernel_rfl)
theorem k498:AC 89 [.bor 4 [[bF,lT [],bF,l1],[bF,lT [],bF,l1]],g (v 2),x (lF [o1]),x (n64 0)] [] [some (.rows 4 [(v 2),[bF,lT [],bF,l1]] false false),none,none,none]:=ex (c4 k147 k46 k497 k346) (by kernel_rfl)
theorem k499:AC 89 [.bor 4 [(v 2),[bF,lT [],bF,l1]],g o1,x (lF [o1]),x (n64 1)] [] [some (.rows 4 [(v 2),o1] false false),none,none,none]:=ex (c3 k46 k57 k389) (by kernel_rfl)
theorem k500:AC 42 [x (lF [(v 2),o1]),x (lF [o1])] [y (lF [(v 2),o1])] n2:=ex (c4 k381 k498 k499 k482) (by kernel_rfl)
theorem k501:AC 22 [x (lF [[lF [(w 2),o0]],[lF [o0,(w 2)]]])] [y (lF [(v 2),o1]),y (n64 0)] n1:=ex (d4 k452 k326 k247 k459 (d4 k488 k489 k494 k496 (c1 k500))) (by kernel_rfl)
theorem k502:AC 50 [x (lF [[n64 0],[n64 1],[n64 1],[n64 0]])] [y (lF [[lF [o0,o1]],[lF [o1,o0]]])] n1:=ex (c2 k449 k5) (by kernel_rfl)
theorem k503:Shows Tryz.prog 80 (.h ⟨[.c (.t (lF [[lF [o0,o1]],[lF [o1,o0]]]))],[]⟩) (.h ⟨[.c (.t (n64 2))],[]⟩):=ex (.nil) (by kernel_rfl)
theorem k504:Shows Tryz.prog 54 (.h ⟨[.c (.t (lF [[lF [o0,o1]],[lF [o1,o0]]]))],[]⟩) (.h ⟨[.c (.t (bT))],[]⟩):=ex (.cons k503 .nil) (by kernel_rfl)
theorem k505:AC 116 [g [bF,l1],g [bF,l1]] [y (n64 0)] n2:=ex (c2 k45 k292) (by kernel_rfl)
theorem k506:AC 76 [g o1,g o1] [y (n64 0)] n2:=ex (c3 k46 k56 k505) (by kernel_rfl)
theorem k507:AC 56 [x (lF [o0,o1])] [.own 4 [o0,o1]] n1:=ex .nil (by kernel_rfl)
theorem k508:AC 56 [x (lF [o1,o0])] [.own 4 [o1,o0]] n1:=ex .nil (by kernel_rfl)
theorem k509:Shows Tryz.prog 55 (.h ⟨[.c (.t (lF [[lF [o0,o1]],[lF [o1,o0]]])),.c (.t (.v (.func (.func 56) #[] #[])))],[]⟩) (.h ⟨[.c (.sl 0 0 2 false)],[some (.var [.sl 1 0 2 false,.sl 2 0 2 false]),some (.rows 4 [o0,o1] true false),some (.rows 4 [o1,o0] true false)]⟩):=ex (.cons k507 (.cons k508 .nil)) (by kernel_rfl)
theorem k510:AC 118 [g [bF,lF []]] [y bF] n1:=ex .nil (by kernel_rfl)
theorem k511:AC 83 [x (lF [[bF,lF []],[bF,l1]])] [h [bF,lF []]] n1:=ex (c3 k55 k510 k49) (by kernel_rfl)
theorem k512:AC 140 [x (lF []),x l1] [y l1] n2:=ex (c1 k51) (by kernel_rfl)
theorem k513:AC 124 [g [bF,lF []],g [bF,l1]] [h [bF,l1]] n2:=ex (c2 k512 k54) (by kernel_rfl)
theorem k514:AC 86 [g o0,g o1] [h o1] n2:=ex (c4 k511 k56 k513 k50) (by kernel_rfl)
theorem k515:AC 126 [g o0,g o2] [h o1] n2:=ex (c2 k456 k514) (by kernel_rfl)
theorem k516:AC 94 [.bor 4 [o0,o1],g o2,.bor 4 [o1,o0]] [] [some (.rows 4 [o1,o1] false false),none,some (.rows 4 [o1,o0] false false)]:=ex (d4 k382 k46 k383 k515 (c1 k454)) (by kernel_rfl)
theorem k517:AC 140 [x l1,x l1] [y (lF [u 2])] n2:=ex (c1 k161) (by kernel_rfl)
theorem k518:AC 124 [g [bF,l1],g [bF,l1]] [h [bF,lF [u 2]]] n2:=ex (c2 k517 k153) (by kernel_rfl)
theorem k519:AC 86 [g o1,g o1] [h (w 2)] n2:=ex (c3 k56 k518 k59) (by kernel_rfl)
theorem k520:AC 140 [x l1,x (lF [])] [y l1] n2:=ex (c1 k51) (by kernel_rfl)
theorem k521:AC 124 [g [bF,l1],g [bF,lF []]] [h [bF,l1]] n2:=ex (c2 k520 k54) (by kernel_rfl)
theorem k522:AC 86 [g o1,g o0] [h o1] n2:=ex (c4 k56 k511 k521 k50) (by kernel_rfl)
theorem k523:Shows Tryz.prog 77 (.h ⟨[.c (.sl 0 0 2 false),.c (.t (n64 0))],[some (.var [.sl 1 0 2 false,.sl 2 0 2 false]),some (.rows 4 [(w 2),o1] true false),some (.rows 4 [o1,o0] true false)]⟩) (.h ⟨[.c (.t (bT))],[some (.var [.sl 1 0 2 false,.sl 2 0 2 false]),some (.rows 4 [(w 2),o1] true false),some (.rows 4 [o1,o0] true false)]⟩):=ex (.cons k95 .nil) (by kernel_rfl)
theorem k524:Shows Tryz.prog 77 (.h ⟨[.c (.sl 0 0 2 false),.c (.t (n64 0))],[some (.var [.sl 1 0 2 false,.sl 2 0 2 false]),some (.rows 4 [o0,o1] true false),some (.rows 4 [o1,o0] true false)]⟩) (.h ⟨[.c (.t (bT))],[some (.var [.sl 1 0 2 false,.sl 2 0 2 false]),some (.rows 4 [(w 2),o1] true false),some (.rows 4 [o1,o0] true false)]⟩):=ex (.cons k454 (.cons k46 (.cons k434 (.cons k516 (.cons k519 (.cons k522 (.cons k523 .nil))))))) (by kernel_rfl)
theorem k525:AC 87 [g (w 2)] [h [bF,l1,bF,lF [u 2]],y (n64 0)] n1:=ex (c1 k94) (by kernel_rfl)
theorem k526:AC 35 [g o1,g [bF,l1,bF,lF [u 2]]] [h [bF,l1,bF,lF [u 2]]] n2:=ex (c4 k354 k50 k56 k204) (by kernel_rfl)
theorem k527:AC 105 [g o1,g (w 2)] [h [bF,l1,bF,lF [u 2]],y (n64 0)] n2:=ex (c2 k525 k526) (by kernel_rfl)
theorem k528:AC 36 [g [bF,l1,bF,lF [u 2]]] [y (n64 1)] n1:=ex (c1 k45) (by kernel_rfl)
theorem k529:AC 35 [g [bF,l1,bF,lF [u 2]],g (w 2)] [h o1] n2:=ex (c3 k50 k220 k56) (by kernel_rfl)
theorem k530:AC 35 [g [bF,l1,bF,lF [u 2]],g o1] [h [bF,l1,bF,lF [u 2]]] n2:=ex (c4 k50 k354 k56 k61) (by kernel_rfl)
theorem k531:AC 38 [g [bF,l1,bF,lF [u 2]]] [h [bT,l1,bF,lF [u 2]]] n1:=ex (c1 k151) (by kernel_rfl)
theorem k532:AC 142 [x (lF []),x (lF [u 2])] [y (lF [])] n2:=ex (c1 k86) (by kernel_rfl)
theorem k533:AC 121 [g [bF,lF []],g [bF,lF [u 2]]] [h [bF,lT []]] n2:=ex (c2 k532 k89) (by kernel_rfl)
theorem k534:AC 83 [x (lF [[bF,lF []],[bF,lF [u 2]]])] [h [bF,lT []]] n1:=ex (d4 k55 k510 k49 k60 (c1 k533)) (by kernel_rfl)
theorem k535:AC 119 [g [bT,l1],g [bF,lF [u 2]]] [h [bF,l1]] n2:=ex (d4 k53 k149 k112 k152 (c4 k352 k160 k52 k54)) (by kernel_rfl)
theorem k536:AC 82 [g [bT,l1],g [bF,lF [u 2]]] [h [bT,l1,bF,lF [u 2]]] n2:=ex (c3 k60 k535 k49) (by kernel_rfl)
theorem k537:AC 86 [g o0,g [bT,l1,bF,lF [u 2]]] [h [bT,l1,bF,lF [u 2]]] n2:=ex (d4 k534 k291 k386 k61 (c1 k536)) (by kernel_rfl)
theorem k538:AC 126 [g o0,g [bF,l1,bF,lF [u 2]]] [h [bT,l1,bF,lF [u 2]]] n2:=ex (c2 k531 k537) (by kernel_rfl)
theorem k539:AC 94 [.bor 4 [o1,o0],g [bF,l1,bF,lF [u 2]],.bor 4 [(w 2),o1]] [] [some (.rows 4 [[bF,lT [],bF,l1],[bT,l1,bF,lF [u 2]]] false false),none,some (.rows 4 [(w 2),o1] false false)]:=ex (d4 k528 k95 k529 k296 (c3 k46 k530 k538)) (by kernel_rfl)
theorem k540:Shows Tryz.prog 58 (.h ⟨[.c (.sl 0 1 1 false),.c (.sl 1 0 2 false),.c (.t (n64 0))],[some (.var [.sl 1 0 2 false,.sl 2 0 2 false]),some (.rows 4 [(w 2),o1] true false),some (.rows 4 [o1,o0] true false)]⟩) (.h ⟨[],[some (.var [.sl 1 0 2 false,.sl 2 0 2 false]),some (.rows 4 [(w 2),o1] true false),some (.rows 4 [[bF,lT [],bF,l1],[bT,l1,bF,lF [u 2]]] true false)]⟩):=ex (.cons k46 (.cons k527 (.cons k539 .nil))) (by kernel_rfl)
theorem k541:Shows Tryz.prog 77 (.h ⟨[.c (.sl 0 0 2 false),.c (.t (n64 1))],[some (.var [.sl 1 0 2 false,.sl 2 0 2 false]),some (.rows 4 [(w 2),o1] true false),some (.rows 4 [[bF,lT [],bF,l1],[bT,l1,bF,lF [u 2]]] true false)]⟩) (.h ⟨[.c (.t (bT))],[some (.var [.sl 1 0 2 false,.sl 2 0 2 false]),some (.rows 4 [(w 2),o1] true false),some (.rows 4 [[bF,lT [],bF,l1],[bT,l1,bF,lF [u 2]]] true false)]⟩):=ex (.cons k359 .nil) (by kernel_rfl)
theorem k542:Shows Tryz.prog 58 (.h ⟨[.c (.sl 0 2 0 false),.c (.sl 1 0 2 false),.c (.t (n64 1))],[some (.var [.sl 2 0 2 false,.sl 1 0 2 false]),some (.rows 4 [[bF,lT [],bF,l1],[bT,l1,bF,lF [u 2]]] true false),some (.rows 4 [(w 2),o1] true false)]⟩) (.h ⟨[],[some (.var [.sl 2 0 2 false,.sl 1 0 2 false]),some (.rows 4 [[bF,lT [],bF,l1],[bT,l1,bF,lF [u 2]]] true false),some (.rows 4 [(w 2),o1] true false)]⟩):=ex (.nil) (by kernel_rfl)
theorem k543:AC 24 [x (lF [[lF [o0,o1]],[lF [o1,o0]]])] [y (n64 1),y (n64 1),y (n64 0)] n1:=ex (d4 k504 k506 k509 k524 (d4 k95 k540 k541 k359 (c1 k542))) (by kernel_rfl)
theorem k544:AC 116 [g [bF,lF [u 3]],g [bF,lF [u 2]]] [y (n64 1)] n2:=ex (c3 k71 k94 k276) (by kernel_rfl)
theorem k545:AC 76 [g (w 3),g (w 2)] [y (n64 1)] n2:=ex (d4 k72 k95 k75 k204 (c1 k544)) (by kernel_rfl)
theorem k546:AC 24 [x (lF [[lF [o1,(w 2)]],[lF [(w 3),(w 4)]]])] [y (n64 0),y (n64 0),y (n64 112)] n1:=ex (c2 k323 k545) (by kernel_rfl)
theorem k547:AC 143 [x (lF [u 9,u 0])] [y (lF [u 9])] n1:=ex .nil (by kernel_rfl)
theorem k548:AC 129 [x (w64 9)] [y (lF [u 9])] n1:=ex (c1 k547) (by kernel_rfl)
theorem k549:AC 143 [x (lF [u 9])] [y (lF [u 9])] n1:=ex .nil (by kernel_rfl)
open Go Go.Abs Go.Proofs
theorem k550:AC 128 [x bF,x (lF [u 9])] [h [bF,lF [u 9]]] n2:=ex (c1 k549) (by kernel_rfl)
theorem k551:AC 101 [x (n64 9)] [h [bF,lF [u 9]]] n1:=ex (c2 k548 k550) (by kernel_rfl)
theorem k552:AC 143 [x (lF [u 0,u 1073741824])] [y (lF [u 0,u 1073741824])] n1:=ex .nil (by kernel_rfl)
theorem k553:AC 129 [x (w64 4611686018427387904)] [y (lF [u 0,u 1073741824])] n1:=ex (c1 k552) (by kernel_rfl)
theorem k554:AC 128 [x bF,x (lF [u 0,u 1073741824])] [h [bF,lF [u 0,u 1073741824]]] n2:=ex (c1 k552) (by kernel_rfl)
theorem k555:AC 101 [x (n64 4611686018427387904)] [h [bF,lF [u 0,u 1073741824]]] n1:=ex (c2 k553 k554) (by kernel_rfl)
theorem k556:AC 144 [x (lF [u 9]),x (n64 1)] [y (w64 0)] n2:=ex .nil (by kernel_rfl)
theorem k557:AC 144 [x (lF [u 9]),x (n64 0)] [y (w64 9)] n2:=ex .nil (by kernel_rfl)
theorem k558:AC 153 [x (lF [u 9])] [y (w64 9)] n1:=ex (c2 k556 k557) (by kernel_rfl)
theorem k559:AC 144 [x (lF [u 2]),x (n64 1)] [y (w64 0)] n2:=ex .nil (by kernel_rfl)
theorem k560:AC 144 [x (lF [u 2]),x (n64 0)] [y (w64 2)] n2:=ex .nil (by kernel_rfl)
theorem k561:AC 153 [x (lF [u 2])] [y (w64 2)] n1:=ex (c2 k559 k560) (by kernel_rfl)
theorem k562:AC 152 [x (w64 9),x (w64 2)] [y (w64 1)] n2:=ex .nil (by kernel_rfl)
theorem k563:AC 145 [x (lF [u 9]),x (lF [u 2])] [y l1] n2:=ex (c4 k558 k561 k562 k1) (by kernel_rfl)
theorem k564:AC 134 [g [bF,lF [u 9]],g [bF,lF [u 2]]] [h [bF,l1]] n2:=ex (c2 k563 k3) (by kernel_rfl)
theorem k565:AC 109 [g [bF,lF [u 2]]] [y (n64 1)] n1:=ex .nil (by kernel_rfl)
theorem k566:AC 131 [x (lF [u 9]),x l1] [y (n64 1)] n2:=ex .nil (by kernel_rfl)
theorem k567:AC 156 [x (lF [u 9]),x (w64 1)] [y (lF [u 9]),y (w64 0)] n2:=ex (c1 k549) (by kernel_rfl)
theorem k568:AC 154 [x (lF [u 9]),x l1] [y (lF [u 9]),y (lF [])] n2:=ex (c3 k566 k567 k445) (by kernel_rfl)
theorem k569:AC 146 [g [bF,lF [u 9]],g [bF,l1]] [h [bF,lF [u 9]],h [bF,lF []],y (n64 0)] n2:=ex (c3 k568 k550 k447) (by kernel_rfl)
theorem k570:AC 135 [g [bF,lF [u 9]],g [bF,l1]] [h [bF,lF [u 9]]] n2:=ex (c1 k569) (by kernel_rfl)
theorem k571:AC 131 [x (lF [u 2]),x l1] [y (n64 1)] n2:=ex .nil (by kernel_rfl)
theorem k572:AC 156 [x (lF [u 2]),x (w64 1)] [y (lF [u 2]),y (w64 0)] n2:=ex (c1 k8) (by kernel_rfl)
theorem k573:AC 154 [x (lF [u 2]),x l1] [y (lF [u 2]),y (lF [])] n2:=ex (c3 k571 k572 k445) (by kernel_rfl)
theorem k574:AC 146 [g [bF,lF [u 2]],g [bF,l1]] [h [bF,lF [u 2]],h [bF,lF []],y (n64 0)] n2:=ex (c3 k573 k9 k447) (by kernel_rfl)
theorem k575:AC 135 [g [bF,lF [u 2]],g [bF,l1]] [h [bF,lF [u 2]]] n2:=ex (c1 k574) (by kernel_rfl)
theorem k576:AC 104 [g [bF,lF [u 9]],g [bF,lF [u 2]]] [h [bF,lF [u 9],bF,lF [u 2]]] n2:=ex (c4 k564 k565 k570 k575) (by kernel_rfl)
theorem k577:AC 52 [g [.v (.int .i8 9),.v (.int .i8 2),.v (.int .u8 0)]] [h [bF,lF [u 9],bF,lF [u 2]]] n1:=ex (c4 k551 k10 k555 k576) (by kernel_rfl)
theorem k578:AC 128 [x bT,x (lF [u 4])] [h [bT,lF [u 4]]] n2:=ex (c1 k20) (by kernel_rfl)
theorem k579:AC 101 [x (n64 (-4))] [h [bT,lF [u 4]]] n1:=ex (c2 k19 k578) (by kernel_rfl)
theorem k580:AC 53 [x (n64 (-4))] [h (v 4)] n1:=ex (c2 k579 k4) (by kernel_rfl)
theorem k581:AC 64 [g [bT,lF [u 4]],g [bT,lF [u 4]]] [y bT] n2:=ex .nil (by kernel_rfl)
theorem k582:AC 64 [g [bF,l1],g [bF,l1]] [y bT] n2:=ex .nil (by kernel_rfl)
theorem k583:AC 18 [g (v 4),g (v 4)] [y bT] n2:=ex (c2 k581 k582) (by kernel_rfl)
theorem k584:AC 64 [g [bF,lF [u 9]],g [bF,lF [u 9]]] [y bT] n2:=ex .nil (by kernel_rfl)
theorem k585:AC 64 [g [bF,lF [u 2]],g [bF,lF [u 2]]] [y bT] n2:=ex .nil (by kernel_rfl)
theorem k586:AC 18 [g [bF,lF [u 9],bF,lF [u 2]],g [bF,lF [u 9],bF,lF [u 2]]] [y bT] n2:=ex (c2 k584 k585) (by kernel_rfl)
theorem k587:AC 26 [x (lF [(v 4),[bF,lF [u 9],bF,lF [u 2]]]),x (lF [(v 4),[bF,lF [u 9],bF,lF [u 2]]])] [y bT] n2:=ex (c2 k583 k586) (by kernel_rfl)
theorem k588:AC 51 [x (lF [[n64 3],[n64 0]])] [y (lF [(w 3),o0])] n1:=ex (c2 k17 k449) (by kernel_rfl)
theorem k589:AC 64 [g [bF,lF [u 3]],g [bF,lF [u 3]]] [y bT] n2:=ex .nil (by kernel_rfl)
theorem k590:AC 18 [g (w 3),g (w 3)] [y bT] n2:=ex (c2 k589 k582) (by kernel_rfl)
theorem k591:AC 64 [g [bF,lT []],g [bF,lF []]] [y bT] n2:=ex .nil (by kernel_rfl)
theorem k592:AC 18 [g [bF,lT [],bF,l1],g o0] [y bT] n2:=ex (c2 k591 k582) (by kernel_rfl)
theorem k593:AC 26 [x (lF [(w 3),[bF,lT [],bF,l1]]),x (lF [(w 3),o0])] [y bT] n2:=ex (c2 k590 k592) (by kernel_rfl)
theorem k594:AC 128 [x bT,x (lF [u 2])] [h [bT,lF [u 2]]] n2:=ex (c1 k8) (by kernel_rfl)
theorem k595:AC 101 [x (n64 (-2))] [h [bT,lF [u 2]]] n1:=ex (c2 k7 k594) (by kernel_rfl)
theorem k596:AC 53 [x (n64 (-2))] [h (v 2)] n1:=ex (c2 k595 k4) (by kernel_rfl)
theorem k597:AC 64 [g [bT,lF [u 2]],g [bT,lF [u 2]]] [y bT] n2:=ex .nil (by kernel_rfl)
theorem k598:AC 18 [g (v 2),g (v 2)] [y bT] n2:=ex (c2 k597 k582) (by kernel_rfl)
theorem k599:AC 128 [x bT,x (lF [u 5])] [h [bT,lF [u 5]]] n2:=ex (c1 k27) (by kernel_rfl)
theorem k600:AC 101 [x (n64 (-5))] [h [bT,lF [u 5]]] n1:=ex (c2 k26 k599) (by kernel_rfl)
theorem k601:AC 53 [x (n64 (-5))] [h (v 5)] n1:=ex (c2 k600 k4) (by kernel_rfl)
theorem k602:AC 51 [x (lF [[n64 (-2)],[n64 (-5)],[n64 1]])] [y (lF [(v 2),(v 5),o1])] n1:=ex (c3 k596 k601 k5) (by kernel_rfl)
theorem k603:AC 64 [g [bT,lF [u 5]],g [bT,lF [u 5]]] [y bT] n2:=ex .nil (by kernel_rfl)
theorem k604:AC 18 [g (v 5),g (v 5)] [y bT] n2:=ex (c2 k603 k582) (by kernel_rfl)
theorem k605:AC 18 [g o1,g o1] [y bT] n2:=ex (c1 k582) (by kernel_rfl)
theorem k606:AC 26 [x (lF [(v 2),(v 5),o1]),x (lF [(v 2),(v 5),o1])] [y bT] n2:=ex (c3 k598 k604 k605) (by kernel_rfl)
theorem k607:AC 51 [x (lF [[n64 (-2)],[n64 1]])] [y (lF [(v 2),o1])] n1:=ex (c2 k596 k5) (by kernel_rfl)
theorem k608:AC 26 [x (lF [(v 2),o1]),x (lF [(v 2),o1])] [y bT] n2:=ex (c2 k598 k605) (by kernel_rfl)
theorem k609:AC 50 [x (lF [[n64 2],[n64 4],[n64 1],[n64 2]])] [y (lF [[lF [(w 2),(w 4)]],[lF [o1,(w 2)]]])] n1:=ex (c3 k11 k23 k5) (by kernel_rfl)
theorem k610:Shows Tryz.prog 55 (.h ⟨[.c (.t (lF [[lF [(w 2),(w 4)]],[lF [o1,(w 2)]]])),.c (.t (.v (.func (.func 56) #[] #[])))],[]⟩) (.h ⟨[.c (.sl 0 0 2 false)],[some (.var [.sl 1 0 2 false,.sl 2 0 2 false]),some (.rows 4 [(w 2),(w 4)] true false),some (.rows 4 [o1,(w 2)] true false)]⟩):=ex (.cons k252 (.cons k39 .nil)) (by kernel_rfl)
theorem k611:Shows Tryz.prog 80 (.h ⟨[.c (.t (lF [[lF [(w 2),(w 4)]],[lF [o1,(w 2)]]]))],[]⟩) (.h ⟨[.c (.t (n64 2))],[]⟩):=ex (.nil) (by kernel_rfl)
theorem k612:Shows Tryz.prog 57 (.h ⟨[.c (.sl 0 0 2 false),.c (.t (n64 0)),.c (.t (n64 0))],[some (.var [.sl 1 0 2 false,.sl 2 0 2 false]),some (.rows 4 [(w 2),(w 4)] true false),some (.rows 4 [o1,(w 2)] true false)]⟩) (.h ⟨[.c (.t (n64 0))],[some (.var [.sl 1 0 2 false,.sl 2 0 2 false]),some (.rows 4 [(w 2),(w 4)] true false),some (.rows 4 [o1,(w 2)] true false)]⟩):=ex (.cons k95 .nil) (by kernel_rfl)
theorem k613:AC 108 [g (w 2),.ref [bF,l1,bF,lF [u 2]]] [h o1] [none,some (.var [.t (bF),.t (l1),.t (bF),.t (lF [u 2])])]:=ex (c1 k529) (by kernel_rfl)
theorem k614:AC 138 [x (lF [u 4])] [y (w64 4)] n1:=ex .nil (by kernel_rfl)
theorem k615:AC 119 [g [bF,lF [u 4]],g [bF,lF [u 2]]] [h [bF,lF [u 2]]] n2:=ex (d4 k230 k266 k112 k152 (c4 k614 k160 k162 k153)) (by kernel_rfl)
theorem k616:AC 136 [x (lF [u 4]),x (lF [u 2])] [y (n64 1)] n2:=ex .nil (by kernel_rfl)
theorem k617:AC 147 [x (lF [u 4]),x (w64 2)] [y (lF [u 2]),y (w64 0)] n2:=ex (c1 k112) (by kernel_rfl)
theorem k618:AC 139 [x (lF [u 4]),x (lF [u 2])] [y (lF [u 2]),y (lF [])] n2:=ex (d4 k230 k112 k616 k617 (c1 k171)) (by kernel_rfl)
theorem k619:AC 120 [g [bF,lF [u 4]],g [bF,lF [u 2]]] [h [bF,lF [u 2]],h [bF,lT []],y (n64 0)] n2:=ex (c4 k112 k618 k153 k89) (by kernel_rfl)
theorem k620:AC 82 [g [bF,lF [u 4]],g [bF,lF [u 2]]] [h (w 2)] n2:=ex (c4 k60 k615 k619 k173) (by kernel_rfl)
theorem k621:AC 35 [g [bF,l1,bF,lF [u 2]],g (w 4)] [h (w 2)] n2:=ex (c4 k50 k620 k61 k56) (by kernel_rfl)
theorem k622:AC 108 [g (w 4),.ref [bF,l1,bF,lF [u 2]]] [h (w 2)] [none,some (.var [.t (bF),.t (l1),.t (bF),.t (lF [u 2])])]:=ex (c1 k621) (by kernel_rfl)
theorem k623:AC 107 [x (lF [(w 2),(w 4)]),.clo 108 [(2,(0,0))],.gh [bF,l1,bF,lF [u 2]]] [.own 4 [o1,(w 2)]] [none,none,some (.var [.t (bF),.t (l1),.t (bF),.t (lF [u 2])])]:=ex (c2 k613 k622) (by kernel_rfl)
theorem k624:Shows Tryz.prog 58 (.h ⟨[.c (.sl 0 0 0 false),.c (.sl 1 0 2 false),.c (.t (n64 0))],[some (.var [.sl 1 0 2 false,.sl 2 0 2 false]),some (.rows 4 [o1,(w 2)] true false),some (.rows 4 [o1,(w 2)] true false)]⟩) (.h ⟨[],[some (.var [.sl 1 0 2 false,.sl 2 0 2 false]),some (.rows 4 [o1,(w 2)] true false),some (.rows 4 [o1,(w 2)] true false)]⟩):=ex (.nil) (by kernel_rfl)
theorem k625:AC 94 [.bor 4 [o1,(w 2)],g o1,.bor 4 [o1,(w 2)]] [] [some (.rows 4 [[bF,lT [],bF,l1],[bF,lT [],bF,l1]] false false),none,some (.rows 4 [o1,(w 2)] false false)]:=ex (d4 k46 k57 k296 k95 (c2 k62 k216)) (by kernel_rfl)
theorem k626:Shows Tryz.prog 58 (.h ⟨[.c (.sl 0 1 1 false),.c (.sl 1 0 2 false),.c (.t (n64 0))],[some (.var [.sl 1 0 2 false,.sl 2 0 2 false]),some (.rows 4 [o1,(w 2)] true false),some (.rows 4 [o1,(w 2)] true false)]⟩) (.h ⟨[],[some (.var [.sl 1 0 2 false,.sl 2 0 2 false]),some (.rows 4 [o1,(w 2)] true false),some (.rows 4 [[bF,lT [],bF,l1],[bF,lT [],bF,l1]] true false)]⟩):=ex (.cons k46 (.cons k289 (.cons k625 .nil))) (by kernel_rfl)
theorem k627:Shows Tryz.prog 57 (.h ⟨[.c (.sl 0 0 2 false),.c (.t (n64 1)),.c (.t (n64 1))],[some (.var [.sl 1 0 2 false,.sl 2 0 2 false]),some (.rows 4 [o1,(w 2)] true false),some (.rows 4 [[bF,lT [],bF,l1],[bF,lT [],bF,l1]] true false)]⟩) (.h ⟨[.c (.t (n64 (-1)))],[some (.var [.sl 1 0 2 false,.sl 2 0 2 false]),some (.rows 4 [o1,(w 2)] true false),some (.rows 4 [[bF,lT [],bF,l1],[bF,lT [],bF,l1]] true false)]⟩):=ex (.cons k208 .nil) (by kernel_rfl)
theorem k628:Shows Tryz.prog 61 (.h ⟨[.c (.t (lF [[lF [(w 2),(w 4)]],[lF [o1,(w 2)]]]))],[]⟩) (.h ⟨[.c (.sl 0 0 1 false),.c (.sl 1 0 1 false)],[some (.var [.sl 2 0 2 false,.sl 3 0 2 false]),some (.rows 1 [[n64 0]] true false),some (.rows 4 [o1,(w 2)] true false),some (.rows 4 [[bF,lT [],bF,l1],[bF,lT [],bF,l1]] true false)]⟩):=ex (.cons k610 (.cons k611 (.cons k612 (.cons k525 (.cons k623 (.cons k624 (.cons k626 (.cons k627 .nil)))))))) (by kernel_rfl)
theorem k629:AC 32 [x (lF [[lF [(w 2),(w 4)]],[lF [o1,(w 2)]]])] [y (lF [[lF [o1,(w 2)]]])] n1:=ex (c1 k628) (by kernel_rfl)
theorem k630:AC 18 [g (w 2),g (w 2)] [y bT] n2:=ex (c2 k585 k582) (by kernel_rfl)
theorem k631:AC 26 [x (lF [o1,(w 2)]),x (lF [o1,(w 2)])] [y bT] n2:=ex (c2 k605 k630) (by kernel_rfl)
theorem k632:AC 19 [x (lF [[lF [o1,(w 2)]]]),x (lF [[lF [o1,(w 2)]]])] [y bT] n2:=ex (c1 k631) (by kernel_rfl)
theorem k633:Shows Tryz.prog 55 (.h ⟨[.c (.t (lF [[lF [o1,(w 2)]]])),.c (.t (.v (.func (.func 56) #[] #[])))],[]⟩) (.h ⟨[.c (.sl 0 0 1 false)],[some (.var [.sl 1 0 2 false]),some (.rows 4 [o1,(w 2)] true false)]⟩):=ex (.cons k39 .nil) (by kernel_rfl)
theorem k634:Shows Tryz.prog 57 (.h ⟨[.c (.sl 0 0 1 false),.c (.t (n64 0)),.c (.t (n64 0))],[some (.var [.sl 1 0 2 false]),some (.rows 4 [o1,(w 2)] true false)]⟩) (.h ⟨[.c (.t (n64 0))],[some (.var [.sl 1 0 2 false]),some (.rows 4 [o1,(w 2)] true false)]⟩):=ex (.cons k46 .nil) (by kernel_rfl)
theorem k635:AC 107 [x (lF [o1,(w 2)]),.clo 108 [(2,(0,0))],.gh o1] [.own 4 [o1,(w 2)]] [none,none,some (.var [.t (bF),.t (l1),.t (bF),.t (l1)])]:=ex (c2 k58 k63) (by kernel_rfl)
theorem k636:Shows Tryz.prog 58 (.h ⟨[.c (.sl 0 0 0 false),.c (.sl 1 0 2 false),.c (.t (n64 0))],[some (.var [.sl 1 0 2 false]),some (.rows 4 [o1,(w 2)] true false)]⟩) (.h ⟨[],[some (.var [.sl 1 0 2 false]),some (.rows 4 [o1,(w 2)] true false)]⟩):=ex (.nil) (by kernel_rfl)
theorem k637:Shows Tryz.prog 58 (.h ⟨[.c (.sl 0 1 0 false),.c (.sl 1 0 2 false),.c (.t (n64 0))],[some (.var [.sl 1 0 2 false]),some (.rows 4 [o1,(w 2)] true false)]⟩) (.h ⟨[],[some (.var [.sl 1 0 2 false]),some (.rows 4 [o1,(w 2)] true false)]⟩):=ex (.nil) (by kernel_rfl)
theorem k638:Shows Tryz.prog 57 (.h ⟨[.c (.sl 0 0 1 false),.c (.t (n64 1)),.c (.t (n64 1))],[some (.var [.sl 1 0 2 false]),some (.rows 4 [o1,(w 2)] true false)]⟩) (.h ⟨[.c (.t (n64 (-1)))],[some (.var [.sl 1 0 2 false]),some (.rows 4 [o1,(w 2)] true false)]⟩):=ex (.nil) (by kernel_rfl)
theorem k639:Shows Tryz.prog 61 (.h ⟨[.c (.t (lF [[lF [o1,(w 2)]]]))],[]⟩) (.h ⟨[.c (.sl 0 0 1 false),.c (.sl 1 0 1 false)],[some (.var [.sl 2 0 2 false]),some (.rows 1 [[n64 0]] true false),some (.rows 4 [o1,(w 2)] true false)]⟩):=ex (.cons k633 (.cons k306 (.cons k634 (.cons k48 (.cons k635 (.cons k636 (.cons k637 (.cons k638 .nil)))))))) (by kernel_rfl)
theorem k640:AC 117 [x (lF [[n64 0]]),x (n64 0)] [y (n64 0)] n2:=ex .nil (by kernel_rfl)
theorem k641:AC 81 [x (lF [[n64 0]]),x (n64 0)] [y bT] n2:=ex (c1 k640) (by kernel_rfl)
theorem k642:AC 117 [x (lF [[n64 0]]),x (n64 1)] [y (n64 (-1))] n2:=ex .nil (by kernel_rfl)
theorem k643:AC 81 [x (lF [[n64 0]]),x (n64 1)] [y bF] n2:=ex (c1 k642) (by kernel_rfl)
theorem k644:AC 33 [x (lF [[lF [o1,(w 2)]]])] [y (lF [[lF [(v 2),o1]]])] n1:=ex (d4 k639 k306 k641 k643 (c3 k247 k326 k210)) (by kernel_rfl)
theorem k645:AC 50 [x (lF [[n64 (-2)],[n64 1]])] [y (lF [[lF [(v 2),o1]]])] n1:=ex (c2 k596 k5) (by kernel_rfl)
theorem k646:AC 19 [x (lF [[lF [(v 2),o1]]]),x (lF [[lF [(v 2),o1]]])] [y bT] n2:=ex (c1 k608) (by kernel_rfl)
theorem k647:AC 11 [] [y bT] []:=ex (d4 k24 k37 k248 k249 (d4 k250 k303 k304 k305 (d4 k322 k334 k376 k443 (d4 k450 k501 k502 k543 (d4 k546 k577 k580 k587 (d4 k588 k593 k596 k598 (d4 k602 k606 k607 k608 (d4 k609 k629 k632 k644 (c2 k645 k646))))))))) (by kernel_rfl)
end Go.Proofs.YtjfmkcmepdedaaaGreat.Mem
end
