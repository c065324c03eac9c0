/-
  A part of the proof: MsM1k.
-/
import Derived.Test.YtjfmkcmepdedaaaGreatM22
set_option maxHeartbeats 0
set_option maxRecDepth 100000
set_option linter.unusedVariables false
set_option linter.unusedSimpArgs false
set_option linter.unusedSectionVars false
section
namespace Go.Proofs.YtjfmkcmepdedaaaGreat
open Go Go.Abs Go.Abs.M Go.Proofs
def CCB:Cfg:=⟨tab.find,btMd (.node 12 [.sh 8] mdt mdt),fun t=>match Nat.blt t 100 with | true=>Nat.beq t 28 || Nat.beq t 29 | false=>true⟩
theorem ccOkB:CfgOk Tryz.prog CCB:=bt_ok tabB
def rmhSt (a b:Int) (VR:Abs.Rows) (c i:Nat) (X:Nat->Abs.Rows) (I:Int):St:=mkSt 31 [.junk,.c (.t (.v (.int .u8 a))),.c (.t (.v (.int .u8 b))),.c (.ptr 0 0 0),.junk,.junk,.junk,.c (.sl 1 0 i false),vi .i64 I] (some (.var [.t (.lst false VR)]) :: some (.var ((List.range i).map fun q=>.sl (q+2) 0 c false)) :: (List.range i).map fun q=>some (.rows 4 (X q) true false))
theorem rmade_h (V:List Int) (hV:∀ v ∈ V,-128<=v/\v < 128) (hVl:V.length < 9223372036854775808) (a b:Nat) (ha:a < 256) (hb:b < 256) {n c:Nat} (hn:n=a % 5) (hc:c=b % 5) {X:Nat->Abs.Rows} (hX:∀ i,i < n->X i=ur (rawRow V (i*c) c)) :
  HCall Tryz.prog 12 ⟨[.agg [.t (.lst false (W .i8 V))],vi .u8 (a:Int),vi .u8 (b:Int)],[]⟩ ⟨[.c (.sl 0 0 n false)],mrh n c X⟩:=by
 have hn5:n < 5:=by omega
 have hc5:c < 5:=by omega
 obtain ⟨CI,hCI⟩:∃ x:Int,x=(c:Int):=⟨_,rfl⟩
 obtain ⟨NI,hNI⟩:∃ x:Int,x=(n:Int):=⟨_,rfl⟩
 have cr:∀ i,i < n->∀ IC:Int,IC=((i*c:Nat):Int)->(X i).length=c/\ACall Tryz.prog 27 [.val (.agg [.lst false (W .i8 V)]),.val (ti .i64 IC),.val (ti .i64 CI)] ⟨[.own 4 (X i)],[none,none,none]⟩:=fun i hi IC h=>by
  rw [h,hCI,hX i hi]
  exact ⟨by rw [qau,rawRow_len],rrow_call V hV hVl (i*c) c (by have:=Nat.mul_le_mul (show i<=4 by omega) (show c<=4 by omega); omega) (by omega)⟩
 obtain ⟨VR,hVR⟩:∃ R,R=W .i8 V:=⟨_,rfl⟩
 obtain ⟨AI,hAI⟩:∃ A:Int,A=a:=⟨_,rfl⟩
 obtain ⟨BI,hBI⟩:∃ A:Int,A=b:=⟨_,rfl⟩
 rw [<- hVR] at cr
 rw [<- hVR,<- hAI,<- hBI]
 clear hX hVR
 have hr:(St.mk [.c (.sl 0 0 n false)] (mrh n c X)).refsLt=true:=by
  obtain rfl | rfl | rfl | rfl | rfl:n=0 ∨ n=1 ∨ n=2 ∨ n=3 ∨ n=4:=by omega
  all_goals rfl
 refine hcallZ ccOkB mixed Tryz.func12 rfl rfl (by kernel_rfl) hr (by simp) fun zA zB zC zD zE zF zG zH zI zJ zK zL zM zN zO zP zQ zR zT zU zV zX zY zZ zb zc zd ze zg zh zi zj zk zl zm zn zo zq zr zs zt zu zx zy zz zmget zmset zW zth A L G hS hG=>?_
 have hAI:AI=(a:Int):=hAI
 have hBI:BI=(b:Int):=hBI
 cbv
 refine loopZR ccOkB mixed hS (fun (m:Nat) s'=>∃ (i:Nat) (I:Int),I=i/\m+i=n/\s'=rmhSt AI BI VR c i X I) (n:=n) (s0:=rmhSt AI BI VR c 0 X 0) (qao ?_ ?_) rfl (by simp [rmhSt,mkSt]) ?_ ?_
 ·simp [leT,rmhSt,mkSt,vi,vb]
 ·simp [leH,rmhSt,mkSt]
 ·exact ⟨0,0,rfl,by omega,rfl⟩
 ·rintro m s1 ⟨i,I,hI,hm,hs1⟩
  have hI:I=(i:Int):=hI
  have hCI:CI=(c:Int):=hCI
  have hNI:NI=(n:Int):=hNI
  have Li:LN i:=trivial
  have w1:zA .i64 (zF AI 5)=NI:=by
   rw [hNI,hS.rem,hAI,show (5:Int)=((5:Nat):Int) from rfl,<- Int.ofNat_tmod,<- hn,hS.wrap,wrap_i64 (by omega) (by omega)]
  have w2:zA .i64 (zF BI 5)=CI:=by
   rw [hCI,hS.rem,hBI,show (5:Int)=((5:Nat):Int) from rfl,<- Int.ofNat_tmod,<- hc,hS.wrap,wrap_i64 (by omega) (by omega)]
  by_cases hi:i < n
  ·have l1:zO (Int.ofNat i) NI=true:=by rw [hS.lt]; exact decide_eq_true (show (i:Int) < NI by omega)
   have hic:=Nat.mul_le_mul (show i<=4 by omega) (show c<=4 by omega)
   obtain ⟨IC,hIC,w3⟩:∃ x:Int,x=((i*c:Nat):Int)/\zA .i64 (zD (Int.ofNat i) CI)=x:=⟨_,rfl,by rw [hS.mul,hCI]; show zA .i64 ((i:Int)*(c:Int))=_; rw [<- Int.natCast_mul,hS.wrap,wrap_i64 (by omega) (by omega)]⟩
   obtain ⟨lX,cri⟩:=cr i hi IC hIC
   have lz:zj (X i)=c:=by rw [hS.len,lX]
   have hmm:m - 1 < m:=by omega
   have hnx:∃ (i2:Nat) (I2:Int),I2=i2/\(m - 1)+i2=n/\rmhSt AI BI VR c (Li.v+1) X (Int.ofNat (Li.v+1))=rmhSt AI BI VR c i2 X I2:=⟨i+1,Int.ofNat (i+1),rfl,by omega,rfl⟩
   have i2:zA .i64 (zB (Int.ofNat i) 1)=Int.ofNat (i+1):=by rw [hS.add,hS.wrap]; exact wrap_i64 (show -9223372036854775808<=(i:Int)+1 by omega) (show (i:Int)+1 < 9223372036854775808 by omega)
   clear cr
   obtain rfl | rfl | rfl | rfl:i=0 ∨ i=1 ∨ i=2 ∨ i=3:=by omega
   all_goals
    subst hI
    subst hs1
    cbv
    rw [w1]
    refine bT l1 ?_
    rw [w2,w3]
    refine ⟨_,hS.call (cri),?_⟩
    cbv
    refine againR [(1,Li.v+5)] (s':=rmhSt AI BI VR c (Li.v+1) X (Int.ofNat (Li.v+1))) (k:=m - 1) ?_ ?_ ?_ ?_ rfl (by simp [rmhSt,mkSt]) hmm hnx
    ·rw [i2]; simp [leTR,rmhSt,mkSt,vi,vb,AV.ren,AV.noTup,Cell.ren,renF,LN.v]
    ·simp [leHR,rmhSt,mkSt,Abs.look,renF,Blk.ren,Cell.ren,LN.v,List.range,List.range.loop,lz]
    ·simp [liveR,rmhSt,mkSt,renF,LN.v,List.range,List.range.loop]
    ·simp
  ·have l1:zO (Int.ofNat i) NI=false:=by rw [hS.lt]; exact decide_eq_false (show ¬((i:Int) < NI) by omega)
   obtain rfl:i=n:=by omega
   clear cr
   obtain rfl | rfl | rfl | rfl | rfl:i=0 ∨ i=1 ∨ i=2 ∨ i=3 ∨ i=4:=by omega
   all_goals
    subst hI
    subst hs1
    cbv
    rw [w1]
    refine bF l1 ?_
    refine endR hG ((List.range (Li.v+1)).map fun q=>(q,q+1)) ?_ ?_ ?_ ?_
    ·simp [leTR,AV.ren,AV.noTup,Cell.ren,renF,LN.v,List.range,List.range.loop]
    ·simp [leHR,Abs.look,renF,Blk.ren,Cell.ren,mrh,LN.v,List.range,List.range.loop]
    ·simp [liveR,renF,mrh,LN.v,List.range,List.range.loop]
    ·simp
def balR (M:Nat->List Rat) (n i j q:Nat):List Rat:=(List.range n).map fun x=>if (q < i/\x < q) ∨ (q=i/\x < j) then (M x).getD q 0 else (M q).getD x 0
theorem balR_len (M:Nat->List Rat) (n i j q:Nat):(balR M n i j q).length=n:=by simp [balR]
theorem qbt {M:Nat->List Rat} {n i j q x:Nat} (hx:x < n):(balR M n i j q).getD x 0=if (q < i/\x < q) ∨ (q=i/\x < j) then (M x).getD q 0 else (M q).getD x 0:=by
 unfold balR
 rw [List.getD_eq_getElem?_getD,List.getElem?_map,List.getElem?_range hx]; rfl
theorem bal_ext {P Q:List Rat} {n:Nat} (hP:P.length=n) (hQ:Q.length=n) (h:∀ x,x < n->P.getD x 0=Q.getD x 0):P=Q:=
 rv_inj (by omega) (funext fun x=>by
  by_cases hx:x < n
  ·exact h x hx
  ·rw [rv_out (by omega),rv_out (by omega)])
theorem balR_next {M:Nat->List Rat} {n i j q:Nat} (hi:i < n) (hj:j < i):(if q=i then (balR M n i j i).set j ((balR M n i j j).getD i 0) else balR M n i j q)=balR M n i (j+1) q:=by
 refine bal_ext (n:=n) (by split <;> simp [balR_len]) (balR_len _ _ _ _ _) fun x hx=>?_
 by_cases hq:q=i
 ·subst hq
  rw [if_pos rfl,List.getD_eq_getElem?_getD,List.getElem?_set]
  by_cases hxj:j=x
  ·subst hxj
   rw [if_pos rfl,if_pos (by rw [balR_len]; exact hx),Option.getD_some,qbt hi,qbt hx,if_neg (by omega),if_pos (by omega)]
  ·rw [if_neg hxj,<- List.getD_eq_getElem?_getD,qbt hx,qbt hx]
   by_cases h:x < j
   ·rw [if_pos (by omega),if_pos (by omega)]
   ·rw [if_neg (by omega),if_neg (by omega)]
 ·rw [if_neg hq,qbt hx,qbt hx]
  by_cases h:q < i/\x < q
  ·rw [if_pos (.inl h),if_pos (.inl h)]
  ·rw [if_neg (by omega),if_neg (by omega)]
theorem balR_row {M:Nat->List Rat} {n i q:Nat}:balR M n i i q=balR M n (i+1) 0 q:=bal_ext (balR_len _ _ _ _ _) (balR_len _ _ _ _ _) fun x hx=>by
 rw [qbt hx,qbt hx]
 by_cases h:q < i/\x < q ∨ q=i/\x < i
 ·rw [if_pos h,if_pos (by omega)]
 ·rw [if_neg h,if_neg (by omega)]
theorem balR_zero {M:Nat->List Rat} {n q:Nat} (h:(M q).length=n):balR M n 0 0 q=M q:=bal_ext (balR_len _ _ _ _ _) h fun x hx=>by rw [qbt hx,if_neg (by omega)]
def rbSt (VR:Abs.Rows) (n:Nat) (X:Nat->Abs.Rows) (I:Int):St:=mkSt 37 [.junk,.junk,.junk,.junk,.junk,.c (.sl 3 0 n false),vi .i64 I] (none :: none :: some (.var [.t (.lst false VR)]) :: some (.var ((List.range n).map fun q=>.sl (q+4) 0 n false)) :: ((List.range n).map fun q=>some (.rows 4 (X q) true false)) ++ List.replicate (7 - n) none)
def rb2St (VR:Abs.Rows) (n:Nat) (X:Nat->Abs.Rows) (I J:Int):St:=mkSt 37 [.junk,.junk,.junk,.junk,.junk,.c (.sl 3 0 n false),vi .i64 I,vi .i64 J] (none :: none :: some (.var [.t (.lst false VR)]) :: some (.var ((List.range n).map fun q=>.sl (q+4) 0 n false)) :: ((List.range n).map fun q=>some (.rows 4 (X q) true false)) ++ List.replicate (7 - n) none)
theorem rbal_call (V:List Int) (hV:∀ v ∈ V,-128<=v/\v < 128) (hVl:V.length < 9223372036854775808) (a:Nat) (ha:a < 256) {n:Nat} (hn:n=a % 5) :
  ACall Tryz.prog 13 [.val (.agg [.lst false (W .i8 V)]),.val (ti .u8 (a:Int))] ⟨[.val (tl (mr n (balR (rawM V n) n n 0)))],[none,none]⟩:=by
 have hn5:n < 5:=by omega
 have cm:=rmade_h V hV hVl a a ha ha hn hn (X:=fun i=>ur (rawRow V (i*n) n)) fun _ _=>rfl
 obtain ⟨F,hF'⟩:∃ F:Nat->Nat->Nat->Abs.Rows,F=fun i j q=>ur (balR (rawM V n) n i j q):=⟨_,rfl⟩
 rw [show (fun i=>ur (rawRow V (i*n) n))=F 0 0 from by
  rw [hF']; funext q
  show ur (rawRow V (q*n) n)=ur (balR (rawM V n) n 0 0 q)
  rw [balR_zero (M:=rawM V n) (q:=q) (by rw [rawM,rawRow_len])]; rfl] at cm
 have lF:∀ i j q,(F i j q).length=n:=fun i j q=>by rw [hF']; show (ur _).length=n; rw [qau,balR_len]
 have fnext:∀ i j,i < n->j < i->∃ (s t s2 t2:Bool) (r p r2 p2:Abs.Rows),(F i j j)[i]?=some [.v (.bool s),.lst false r,.v (.bool t),.lst false p]/\(F i j i)[j]?=some [.v (.bool s2),.lst false r2,.v (.bool t2),.lst false p2] /\
   ∀ q,(if q=i then (F i j i).set j [.v (.bool s),.lst false r,.v (.bool t),.lst false p] else F i j q)=F i (j+1) q:=fun i j hi hj=>by
  rw [hF']
  obtain ⟨s,t,r,p,h1,h2⟩:=qbo (P:=balR (rawM V n) n i j j) (k:=i) (by rw [balR_len]; exact hi)
  obtain ⟨s2,t2,r2,p2,h3,h4⟩:=qbo (P:=balR (rawM V n) n i j i) (k:=j) (by rw [balR_len]; omega)
  refine ⟨s,t,s2,t2,r,p,r2,p2,h2,h4,fun q=>?_⟩
  show (if q=i then (ur (balR (rawM V n) n i j i)).set j _ else ur (balR (rawM V n) n i j q))=ur (balR (rawM V n) n i (j+1) q)
  rw [<- h1,ur_set,<- balR_next hi hj (q:=q)]
  split <;> rfl
 have frow:∀ i,F i i=F (i+1) 0:=fun i=>by
  rw [hF']; funext q
  show ur _=ur _
  rw [balR_row]
 obtain ⟨T,hT⟩:∃ T,T=mr n (balR (rawM V n) n n 0):=⟨_,rfl⟩
 have hT2:T=(List.range n).map fun q=>[Tree.lst false (F n 0 q)]:=by rw [hT,hF']; rfl
 obtain ⟨VR,hVR⟩:∃ R,R=W .i8 V:=⟨_,rfl⟩
 obtain ⟨AI,hAI⟩:∃ A:Int,A=a:=⟨_,rfl⟩
 rw [<- hVR,<- hAI] at cm
 rw [<- hT,<- hVR,<- hAI,hT2]
 clear hF' hT hT2 hVR hV hVl hAI hn
 have L4:LN n:=trivial
 obtain ⟨N,hN⟩:∃ N,N=n:=⟨_,rfl⟩
 rw [<- hN] at lF fnext hn5
 obtain rfl | rfl | rfl | rfl | rfl:n=0 ∨ n=1 ∨ n=2 ∨ n=3 ∨ n=4:=by omega
 all_goals
  refine callZX ccOkB mixed [.val] Tryz.func13 rfl rfl (by kernel_rfl) fun zA zB zC zD zE zF zG zH zI zJ zK zL zM zN zO zP zQ zR zT zU zV zX zY zZ zb zc zd ze zg zh zi zj zk zl zm zn zo zq zr zs zt zu zx zy zz zmget zmset zW zth A L F' hS hF=>?_
  obtain rfl:zZ=fun a:Nat=>(a:Int):=by funext a; exact hS.ofN a
  obtain ⟨za,rfl⟩:=hS.addL
  obtain ⟨zw,rfl⟩:=hS.wrapL
  have hv:L4.v=N:=hN.symm
  have k1:∀ q,q < N->zO (Int.ofNat q) (L4.v:Int)=true:=fun q h=>by rw [hS.lt]; exact decide_eq_true (show (q:Int) < _ by omega)
  have k2:zO (Int.ofNat N) (L4.v:Int)=false:=by rw [hS.lt]; exact decide_eq_false (show ¬((N:Int) < _) by omega)
  have c1:∀ q,q < N->zY (Int.ofNat q) L4.v=true:=fun q h=>by rw [hS.inb]; exact decide_eq_true ⟨Int.natCast_nonneg q,show (q:Int) < _ by omega⟩
  have c2:∀ q,zb 0 (Int.ofNat q)=q:=fun q=>by rw [hS.idx]; simp
  have f:∀ X:Abs.Rows,X.length=N->zq 0 L4.v X=true:=fun X h=>by rw [hS.fit]; exact decide_eq_true (by omega)
  have pt:∀ X:Abs.Rows,X.length=N->zr X 0 L4.v=X:=fun X h=>by rw [hS.part,List.drop_zero,List.take_of_length_le (by omega)]
  simp only [LN.v] at pt
  cbv
  refine ⟨_,hS.hcall cm,?_⟩
  cbv
  clear cm
  refine loopZR ccOkB mixed hS (fun (m:Nat) s'=>∃ (i:Nat) (I:Int),I=i/\m+i=N/\s'=rbSt VR L4.v (F i 0) I) (n:=N) (s0:=rbSt VR L4.v (F 0 0) 0) (qao ?_ ?_) rfl (Nat.succ_le_succ (Nat.succ_le_succ (Nat.zero_le _))) ?_ ?_
  ·simp [leT,rbSt,mkSt,vi,vb,LN.v]
  ·simp [leH,rbSt,mkSt,LN.v,List.range,List.range.loop,List.replicate]
  ·exact ⟨0,0,rfl,by omega,rfl⟩
  ·rintro m s1 ⟨i,I,hI,hm,hs1⟩
   have Li:LN i:=trivial
   by_cases hi:i=N
   ·have l2:=k2
    rw [<- hi] at l2
    have g:=fun q=>lF i 0 q
    clear fnext lF frow
    obtain rfl | rfl | rfl | rfl | rfl:i=0 ∨ i=1 ∨ i=2 ∨ i=3 ∨ i=4:=by omega
    all_goals first | (exfalso; omega) | skip
    all_goals
     subst hI
     subst hs1
     cbv
     refine bF l2 ?_
     repeat refine nd (f _ (g _)) ?_
     try simp only [pt _ (g _)]
     exact hF _ (ResLe.refl _)
   ·have hiN:i < N:=by omega
    have l1:=k1 i hiN
    have b1:=c1 i hiN
    have b2:=c2 i
    have hmm:m - 1 < m:=by omega
    have fr:=frow i
    have fi:=fun j=>fnext i j hiN
    have hnx:∃ (i2:Nat) (I2:Int),I2=i2/\(m - 1)+i2=N/\rbSt VR L4.v (F (Li.v+1) 0) (Int.ofNat (Li.v+1))=rbSt VR L4.v (F i2 0) I2:=⟨i+1,Int.ofNat (i+1),rfl,by omega,rfl⟩
    clear fnext frow
    obtain rfl | rfl | rfl | rfl:i=0 ∨ i=1 ∨ i=2 ∨ i=3:=by omega
    all_goals first | (exfalso; omega) | skip
    all_goals
     subst hI
     subst hs1
     cbv
     refine bT l1 ?_
     apply hideP (L:=L) True
     ·intro Q' hq hret
      refine loopZR ccOkB mixed hS (fun (m:Nat) s'=>∃ (j:Nat) (J:Int),J=j/\m+j=Li.v/\s'=rb2St VR L4.v (F Li.v j) (Int.ofNat Li.v) J) (n:=Li.v) (s0:=rb2St VR L4.v (F Li.v 0) (Int.ofNat Li.v) 0) (qao ?_ ?_) rfl (Nat.succ_le_succ (Nat.succ_le_succ (Nat.zero_le _))) ?_ ?_
      ·simp [leT,rb2St,mkSt,vi,vb,LN.v]
      ·simp [leH,rb2St,mkSt,LN.v,List.range,List.range.loop,List.replicate]
      ·exact ⟨0,0,rfl,by omega,rfl⟩
      ·rintro m2 s2 ⟨j,J,hJ,hm2,hs2⟩
       have Lj:LN j:=trivial
       have hm2:m2+j=Li.v:=hm2
       simp only [LN.v] at hm2
       by_cases hj:j=Li.v
       ·have l3:zO (Int.ofNat j) (Int.ofNat Li.v)=false:=by rw [hj,hS.lt]; exact decide_eq_false (Int.lt_irrefl _)
        simp only [LN.v] at hj
        subst hj
        subst hJ
        subst hs2
        cbv
        refine bF l3 ?_
        exact hq trivial
       ·simp only [LN.v] at hj
        have hjl:j < Li.v:=by simp only [LN.v]; omega
        have l3:zO (Int.ofNat j) (Int.ofNat Li.v)=true:=by rw [hS.lt]; exact decide_eq_true (Int.ofNat_lt.2 hjl)
        have d1:=c1 j (by simp only [LN.v] at hjl; omega)
        have d2:=c2 j
        obtain ⟨s,t,s2',t2,r,p,r2,p2,y1,y2,y3⟩:=fi j hjl
        have hmm2:m2 - 1 < m2:=by omega
        have hnx2:∃ (j3:Nat) (J3:Int),J3=j3/\(m2 - 1)+j3=Li.v/\rb2St VR L4.v (F Li.v (Lj.v+1)) (Int.ofNat Li.v) (Int.ofNat (Lj.v+1))=rb2St VR L4.v (F Li.v j3) (Int.ofNat Li.v) J3:=⟨j+1,Int.ofNat (j+1),rfl,by simp only [LN.v]; omega,rfl⟩
        have z1:=y3 Li.v
        simp only [LN.v,if_true] at z1
        have x1:zk (F Li.v j j) Li.v=some [.v (.bool s),.lst false r,.v (.bool t),.lst false p]:=by rw [hS.nth]; exact y1
        have x2:zk (F Li.v j Li.v) j=some [.v (.bool s2'),.lst false r2,.v (.bool t2),.lst false p2]:=by rw [hS.nth]; exact y2
        simp only [LN.v] at x1 x2
        have x3:=z1
        rw [<- hS.setr] at x3
        have y4:∀ q,q ≠ Li.v->F Li.v j q=F Li.v (j+1) q:=fun q h=>by
         have:=y3 q
         simp only [LN.v] at h
         rw [if_neg h] at this
         exact this
        simp only [LN.v] at y4
        clear fi y1 y2 y3 z1 hq hret hnx fr
        obtain rfl | rfl | rfl:j=0 ∨ j=1 ∨ j=2:=by simp only [LN.v] at hjl; omega
        all_goals first | (exfalso; simp only [LN.v] at hjl; omega) | skip
        all_goals
         subst hJ
         subst hs2
         cbv
         refine bT l3 ?_
         cbv
         refine nd b1 ?_
         simp only [LN.v,b2,x1]
         cbv
         refine nd d1 ?_
         simp only [LN.v,d2,x2]
         cbv
         simp only [LN.v,sr4,x3]
         repeat (conv in (ST.toSt _)=>cbv)
         refine againR [] (s':=rb2St VR L4.v (F Li.v (Lj.v+1)) (Int.ofNat Li.v) (Int.ofNat (Lj.v+1))) (k:=m2 - 1) ?_ ?_ ?_ ?_ rfl (Nat.succ_le_succ (Nat.succ_le_succ (Nat.zero_le _))) hmm2 hnx2
         ·simp [leTR,rb2St,mkSt,vi,vb,AV.ren,AV.noTup,Cell.ren,renF,LN.v]
         ·simp [leHR,rb2St,mkSt,Abs.look,renF,Blk.ren,Cell.ren,LN.v,List.range,List.range.loop,List.replicate,y4]
         ·simp [liveR,rb2St,mkSt,renF,LN.v,List.range,List.range.loop,List.replicate]
         ·simp
     ·intro _
      cbv
      refine againR [] (s':=rbSt VR L4.v (F (Li.v+1) 0) (Int.ofNat (Li.v+1))) (k:=m - 1) ?_ ?_ ?_ ?_ rfl (Nat.succ_le_succ (Nat.succ_le_succ (Nat.zero_le _))) hmm hnx
      ·simp [leTR,rbSt,mkSt,vi,vb,AV.ren,AV.noTup,Cell.ren,renF,LN.v]
      ·simp [leHR,rbSt,mkSt,Abs.look,renF,Blk.ren,Cell.ren,LN.v,List.range,List.range.loop,List.replicate,fr]
      ·simp [liveR,rbSt,mkSt,renF,LN.v,List.range,List.range.loop,List.replicate]
      ·simp
end Go.Proofs.YtjfmkcmepdedaaaGreat
end
