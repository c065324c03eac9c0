/- A part. -/
import Derived.Test.YtekefilngojelaaGreatM12
import Derived.Test.YtekefilngojelaaGreatM15
import Derived.Test.YtekefilngojelaaGreatM18
import Derived.Test.YtekefilngojelaaGreatM24
import Derived.Test.YtekefilngojelaaGreatM27
import Derived.Test.YtekefilngojelaaGreatM28
import Derived.Test.YtekefilngojelaaGreatM29
set_option maxHeartbeats 0
set_option maxRecDepth 100000
set_option linter.unusedVariables false
set_option linter.unusedSimpArgs false
section
namespace Go.Proofs.YtekefilngojelaaGreat
open Go Go.Abs Go.Abs.M Go.Proofs
theorem Gp (K:Int) (hK:0<=K) (l:List (List R5)) (hl:LI l) (v:List Int) (hv:Jn v) :
  ∃(E D:aS) (k:Int) (aG:aS) (C:fi) (q:jJ),Ov 2 E D/\(∀p∈E,SP p)/\(∀p∈D,SP p)/\E.length<=2/\D.length<=1/\kf E.length k aG C q /\
   aH 9 [.val (.agg (mH K l v))] ⟨[.val (.agg (fT 2 (.aa false (aj E)) (.aa false (aj D)) k (.aa false (aj aG)) (.aa false (dL C)) q))],[none]⟩:=by
 obtain⟨E,D,hk,hE,hD,lE,lD,cK⟩:=xZ K l hl v hv;have hR:∃a b c,mH K l v=[a,b,c]:=⟨_,_,_,rfl⟩;obtain⟨j,hj⟩:=aq (K.tmod 13);have ahe:0<=j/\j<13:=by rw[hj];exact⟨Int.tmod_nonneg _ hK,Int.tmod_lt_of_pos _ (by decide)⟩
 obtain⟨P,O1,Lc,n,q,c,cd,dd,rr,hP,hO,hL,lL,hn,hc,hd,hr,m1,m2,m3,m4,m5,m6,m9,m10,m11,m12,m13⟩:=NQ K l hl v hv;obtain⟨sF,en,T,G1,O2,C1,G,O,C,Q,Sx,c1,c2,n1,hT,bo,ba,RD⟩:=NS K l hl v hv 2 E lE (aj D) Lc lL;obtain⟨Xq,Sq,c3,c4,s1,s2,KI⟩:=Lh K l hl v hv 2 E lE (aj D);obtain⟨G3,O3,C3,Q3,Sx3,U,U1,At,a,ba3,ro,Wt⟩:=Li K l hl v hv 2 E lE (aj D);have mk:=fun k aG C q (h:kf E.length k aG C q) (hc)=>(⟨E,D,k,aG,C,q,hk,hE,hD,lE,lD,h,hc⟩:∃(E D:aS) (k:Int) (aG:aS) (C:fi) (q:jJ),Ov 2 E D/\(∀p∈E,SP p)/\(∀p∈D,SP p)/\E.length<=2/\D.length<=1/\kf E.length k aG C q /\
   aH 9 [.val (.agg (mH K l v))] ⟨[.val (.agg (fT 2 (.aa false (aj E)) (.aa false (aj D)) k (.aa false (aj aG)) (.aa false (dL C)) q))],[none]⟩)
 have w:=fun k cn cd cr P O Lc Sg B x=>Ic _ hR 2 k cn cd cr (aj E) (aj D) P O Lc Sg B x cK
 rcases(show j=0∨j=1∨j=2∨j=3∨j=4∨j=5∨j=6∨j=7∨j=8∨j=9∨j=10∨j=11∨j=12 by omega) with rfl|rfl|rfl|rfl|rfl|rfl|rfl|rfl|rfl|rfl|rfl|rfl|rfl
 ·exact mk _ _ _ _ (.k1 P sF hP c1 c2) (w _ _ _ _ _ _ _ _ _ _ (m1 hj.symm) (RD ..).1)
 ·exact mk _ _ _ _ (.k2 P C G O Q Sx hP ba) (w _ _ _ _ _ _ _ _ _ _ (m2 hj.symm) (RD ..).2.2.2.2.1)
 ·exact mk _ _ _ _ (.k3 en sF n1 c1 c2) (w _ _ _ _ _ _ _ _ _ _ (m3 hj.symm) (RD ..).2.1)
 ·exact mk _ _ _ _ (.k4 O1 Lc C G O Q Sx hO hL lL ba) (w _ _ _ _ _ _ _ _ _ _ (m4 hj.symm) (RD ..).2.2.2.2.2.1)
 ·exact mk _ _ _ _ (.k5 c cd C G O Q Sx hc hd ba) (w _ _ _ _ _ _ _ _ _ _ (m5 hj.symm) (RD ..).2.2.2.2.2.2.1)
 ·exact mk _ _ _ _ (.k6 n dd rr C G O Q Sx hn hr ba) (w _ _ _ _ _ _ _ _ _ _ (m6 hj.symm) (RD ..).2.2.2.2.2.2.2)
 ·obtain⟨_,Z,_,_,hZ,lZ,_,_,cC,_⟩:=Cc K l hl v hv
  have cC:=cC hj.symm;exact mk _ _ _ _ (.k7 Z C3 G3 O3 Q3 Sx3 U U1 At a hZ lZ ba3 ro) (w _ _ _ _ _ _ _ _ _ _ cC (Wt ..).1)
 ·obtain⟨P,Z,Sg,hP,hZ,lZ,hg,lg,_,cC⟩:=Cc K l hl v hv
  have cC:=cC hj.symm;exact mk _ _ _ _ (.k8 P Z Sg C3 G3 O3 Q3 Sx3 U U1 At a hP hZ lZ hg lg ba3 ro) (w _ _ _ _ _ _ _ _ _ _ cC (Wt ..).2)
 ·exact mk _ _ _ _ (.k9 Xq Sq c3 c4 s1 s2) (w _ _ _ _ _ _ _ _ _ _ (m9 hj.symm) (KI ..).1)
 ·exact mk _ _ _ _ (.KN P Xq Sq hP c3 c4 s1 s2) (w _ _ _ _ _ _ _ _ _ _ (m10 hj.symm) (KI ..).2)
 ·exact mk _ _ _ _ (.Ow Lc T hL lL hT) (w _ _ _ _ _ _ _ _ _ _ (m11 hj.symm) (RD [] 0 0 0 [] [] [] []).2.2.1)
 ·exact mk _ _ _ _ (.TJ n C1 G1 O2 hn bo) (w _ _ _ _ _ _ _ _ _ _ (m12 hj.symm) (RD ..).2.2.2.1)
 ·obtain⟨Xs,Bs,x1,x2,b1,b2,cE⟩:=Iq K l hl v hv 2 E lE (aj D) [] n 0 0 [] [] [] []
  exact mk _ _ _ _ (.YI n Xs Bs hn x1 x2 b1 b2) (w _ _ _ _ _ _ _ _ _ _ (m13 hj.symm) cE)
def Cg (N M:Int) (X X2 Y Y2 T:Abs.Rows) (aG:Tree) (q:jJ) (av:Abs.Rows) (c:Nat) (ci:Int) (R:Abs.Rows) (J:Int):St:=ae 91 [.af,.af,.c (.ptr 2 0 0),.c (.ptr 3 0 0),.c (.ptr 4 0 0),vb false,.c (.ptr 7 0 0),.c (.t (.aa false av)),.af,.af,.af,.af,.af,.af,.af,.af,.af,.af,.af,.af,.af,.af,.af,.af,.af,.af,.af,.af,.af,.af,.af,.af,.af,.af,.af,.af,.af,.af,.af,.af,.af,.af,.af,.af,.af,.af,.af,.af,.af,.af,.af,.af,.af,.af,.af,.af,.af,.af,.af,.af,.af,.af,.af,.af,.af,.af,.af,.af,.af,.af,.af,.c (.t (.aa false T)),vi .i64 ci,vi .i64 J] [none,none,fB N (.aa false X) (.aa false X2) 12 aG (.aa false T) q,NF M (.aa false Y) (.aa false Y2),some (.var (Jm.map .t)),none,none,some (.var [.t (.v (.int .i64 M)),.t (.aa false Y),.t (.aa false Y2),.t (.v (.int .i64 12)),.t (.aa false q.P),.t (.v (.int .i64 q.cn)),.t (.v (.int .i64 q.cd)),.t (.v (.int .i64 q.cr)),.t (.aa false q.O),.t (.aa false q.Lc),.t (.aa false q.S),.t (.aa false q.B),.t (.v (.int .i64 q.eN)),.t aG,.t (.aa false q.G),.t (.aa false q.eO),.sl 8 0 c false,.t (.aa false q.Q),.t (.aa false q.Sx),.t (.v (.int .i64 q.r0)),.t (.v (.int .i64 q.r1)),.t (.v (.int .i64 q.r2)),.t (.v (.int .i64 q.r3)),.t (.v (.int .i64 q.r4)),.t (.v (.int .i64 q.r5)),.t (.v (.int .i64 q.r6)),.t (.v (.int .i64 q.r7)),.t (.aa false q.r8),.t (.aa false q.r9),.t (.aa false q.Ts),.t (.aa false q.Wu),.t (.aa false q.Wv),.t (.aa false q.Ww),.t (.aa false q.Wx),.t (.aa false q.Wy),.t (.aa false q.Yx),.t (.aa false q.At),.t (.aa false q.Sq),.t (.aa false q.X),.t (.aa false q.eB)]),some (.rows 1 R true false)]
theorem NT (N M:Int) (E D E' D':aS) (aG:Tree) (C:fi) (q:jJ) (av ix:List Int) (n:Nat) (b:Bool) (mv:aS->aS) (hC:C.length<=1000)
  (hL:ix.length<=1000) (Ro:∀x∈ix,0<=x/\x<n) (eL:av.length=n) (hb:b=true↔∀x∈ix,0<=av.getD x.toNat (-1))
  (hf:aH 40 [.val (.agg (fT N (.aa false (aj E)) (.aa false (aj D)) 12 aG (.aa false (dL C)) q)),.val (.agg (kT M E' D'))] ⟨[.val (tb true)],[none,none]⟩)
  (hw:aH 25 [.val (.agg (cT 12 q))] ⟨[.val (tb false)],[none]⟩)
  (hp:aH 41 [.val (tl (aj E)),.val (tl (aj E'))] ⟨[.val (tl (W .i64 av))],[none,none]⟩)
  (hu:aH 12 [.val (.agg (fT N (.aa false (aj E)) (.aa false (aj D)) 12 aG (.aa false (dL C)) q))] ⟨[.val (tl (W .i64 ix))],[none]⟩)
  (hm:b=true->∀r∈C,aH 42 [.val (tl (aj r)),.val (tl (W .i64 av)),.val (ti .i64 (E'.length:Int))] ⟨[.val (tl (aj (mv r)))],[none,none,none]⟩) :
  aH 14 [.val (.agg (fT N (.aa false (aj E)) (.aa false (aj D)) 12 aG (.aa false (dL C)) q)),.val (.agg (kT M E' D'))] ⟨[.val (.agg (if b=true then fT M (.aa false (aj E')) (.aa false (aj D')) 12 aG (.aa false (dL (C.map mv))) q else zF)),.val (tb b)],[none,none]⟩:=by
 have hz:=Ih;obtain⟨Av,TF⟩:=aq (W .i64 av);obtain⟨Lr,Qj⟩:=aq (W .i64 ix);obtain⟨l,hl⟩:=aq (ix.length);obtain⟨m,Uh⟩:=aq (l:Int);have Qk:Lr.length=l:=by rw[Qj,jr,hl]
 have lY:(aj E').length=E'.length:=lB _;obtain⟨el,Rp⟩:=aq (E'.length:Int);rw[<-TF]at hp hm;obtain⟨T,hT⟩:=aq (dL C);obtain⟨c,hc⟩:=aq (C.length);have lT:T.length=c:=by rw[hT,mD,hc]
 obtain⟨ci,M3⟩:=aq (c:Int);rw[<-hT]at hf hu ⊢;rw[<-Qj]at hu;rw[<-Rp]at hm;unfold kT cT at *;generalize aj E=X,aj D=X2 at *;generalize aj E'=Y,aj D'=Y2 at *;unfold fT at *;refine an ai mixed [.val,.val] Tryz.func14 rfl rfl (by kernel_rfl) fun zD zE _ _ _ _ _ _ _ _ _ _ _ zU zV zX zY _ _ _ _ zu zy zz bg _ _ _ _ _ aT ab aB bA aL ar _ _ _ _ _ bR _ _ _ _ _ _ _ _ _ A L F hS hF=>?_
 have y:zY true=false:=by rw[hS.not];rfl
 have lN:zz (ab Lr)=m:=by rw[hS.az,hS.len,Qk,Uh]
 have yN:zz (ab Y)=el:=by rw[hS.az,hS.len,lY,Rp]
 have zk:zU 12 12=false:=by rw[hS.ne];rfl
 have tN:zz (ab T)=ci:=by rw[hS.az,hS.len,lT,M3]
 cbv;refine hS.cl hf ?_;cbv;apply bF y;refine hS.cl hw ?_;cbv;apply bF rfl;refine hS.cl hp ?_;cbv;refine hS.cl hu ?_;cbv;simp only[lN];refine mV ai mixed hS (n:=l) (fun j (d:Unit)=>vq N M 12 X X2 Y Y2 aG (.aa false T) q Av Lr m (Int.ofNat j)) (fun j d=>∀x∈ix.take j,0<=av.getD x.toNat (-1)) (a0:=()) (fy ?_ ?_) rfl (Nat.le_add_left 2 6) (by simp) ?_ ?_
 ·simp[dS,vq,ae,vi,vb]
 ·simp[dU,vq,fB,fT,NF,Jm,ae]
 ·intro j d hj hd
  have l1:zV (Int.ofNat j) m=true:=by rw[<-lN];exact(hS.ic Qk hj (by omega)).1
  have i1:zD .i64 (zE (j:Int) 1)=(j:Int)+1:=(hS.ic Qk hj (by omega)).2.1;have j1:zu (Int.ofNat j)=j:=by rw[hS.nat];rfl
  have n0:zX 0 (Int.ofNat j)=true:=dT (hS.le ..) (show(0:Int)<=(j:Int) by omega);have K7:j<ix.length:=by omega
  obtain⟨x,hx⟩:∃x:Nat,(x:Int)=ix[j]:=⟨ix[j].toNat,by have:=(Ro _ (List.getElem_mem K7)).1;omega⟩;have hxn:x<n:=Int.ofNat_lt.1 (by rw[hx];exact(Ro _ (List.getElem_mem K7)).2);have fc:ix.take (j+1)=ix.take j ++ [(x:Int)]:=by rw[List.take_add_one,List.getElem?_eq_getElem K7,hx];rfl
  have g1:aL .i64 Lr j=true:=by rw[hS.gM,Qj,kY];exact decide_eq_true K7
  have g2:ar Lr j=Int.ofNat x:=by rw[hS.dK,Qj,m8,List.getD_eq_getElem?_getD,List.getElem?_eq_getElem K7];exact hx.symm
  obtain⟨a,ha⟩:=aq (av.getD x (-1));have g3:aL .i64 Av x=true:=by rw[hS.gM,TF,kY];exact decide_eq_true (by omega)
  have g4:ar Av x=a:=by rw[hS.dK,TF,m8,ha,List.getD_eq_getElem?_getD,List.getD_eq_getElem?_getD,List.getElem?_eq_getElem (show x<av.length by omega)];rfl
  have j3:zu (Int.ofNat x)=x:=by rw[hS.nat];rfl
  have n3:zX 0 (Int.ofNat x)=true:=dT (hS.le ..) (show(0:Int)<=(x:Int) by omega)
  by_cases h0:a<0
  ·have z0:zV a 0=true:=dT (hS.lt ..) h0
   have I8:b=false:=by
    cases bQ:b with
    | false=>rfl
    | true=>
     have:=hb.1 bQ (x:Int) (by rw[hx];exact List.getElem_mem K7);rw[Int.toNat_natCast,<-ha]at this;omega
   rw[I8]at hF;clear hx fc ha;cbv;apply bT l1;simp only[j1,g2,j3,g4];refine nd n0 (nd g1 (nd n3 (nd g3 (bT z0 ?_))));exact Fl hF hz (jq.refl _)
  ·have z0:zV a 0=false:=dF (hS.lt ..) h0
   have hR:∀x∈ix.take (j+1),0<=av.getD x.toNat (-1):=by
    rw[fc];intro z hz;rcases List.mem_append.1 hz with hz|hz
    ·exact hd z hz
    ·rw[List.mem_singleton.1 hz,Int.toNat_natCast,<-ha];omega
   clear hx fc ha;cbv;apply bT l1;simp only[j1,g2,j3,g4];refine nd n0 (nd g1 (nd n3 (nd g3 (bF z0 ?_))));refine aU [(2,2),(3,3),(4,4),(7,7)] () ?_ ?_ ?_ ?_ rfl (Nat.le_add_left 2 6) hR
   ·simp[bd,vq,ae,vi,vb,AV.aw,AV.aJ,Cell.aw,ak,i1]
   ·simp[bf,vq,fB,fT,NF,Jm,ae,Abs.look,ak,aA.aw,Cell.aw]
   ·simp[aF,vq,fB,fT,NF,Jm,ae,ak]
   ·simp
 ·intro d hd
  rw[List.take_of_length_le (by omega)]at hd;have WZ:b=true:=hb.2 hd;have lE:zV (Int.ofNat l) m=false:=by rw[<-lN];exact hS.fh Qk
  have hm:=hm WZ;rw[WZ]at hF;rw[if_pos rfl]at hF;have M3:ci=(c:Int):=M3;have k1:aT ci ci 24=true:=by rw[hS.nG,M3];exact decide_eq_true ⟨by omega,by omega,by unfold au;omega⟩
  have k2:zu ci=c:=by rw[hS.nat,M3];rfl
  obtain⟨R0,Ec⟩:=aq (List.replicate c [.aa true []]:Abs.Rows);have k3:bR c [.aa true []]=R0:=by rw[hS.rep,Ec]
  cbv;refine bF lE (bF zk ?_);simp only[tN,k2,k3];apply nd k1;have v8:∀ {j:Nat} (hj:j<c),∃r∈C,T[j]?=some [.aa false (aj r)]/\C.take (j+1)=C.take j ++ [r]:=fun {j} hj=>by
   obtain⟨r,h1,_,h2,h3⟩:=H5 (l:=C) (i:=j) (by omega);exact⟨r,h1,by rw[hT];exact h2,h3⟩
  refine mV ai mixed hS (n:=c) (fun j (R:Abs.Rows)=>Cg N M X X2 Y Y2 T aG q Av c ci R (Int.ofNat j)) (fun j R=>R=dL ((C.take j).map mv)++List.replicate (c-j) [.aa true []]) (a0:=R0) (fy ?_ ?_) rfl (by show 2<=9;omega) (by rw[Ec];rfl) ?_ ?_
  ·simp[dS,Cg,ae,vi,vb]
  ·simp[dU,Cg,fB,fT,NF,Jm,ae]
  ·intro j R hj hR
   have l1:zV (Int.ofNat j) ci=true:=by rw[<-tN];exact(hS.ic lT hj (by omega)).1
   have i1:zD .i64 (zE (j:Int) 1)=(j:Int)+1:=(hS.ic lT hj (by omega)).2.1;have j1:zu (Int.ofNat j)=j:=by rw[hS.nat];rfl
   have n0:zX 0 (Int.ofNat j)=true:=dT (hS.le ..) (show(0:Int)<=(j:Int) by omega);obtain⟨r,hr,hTj,fc⟩:=v8 hj;have cm:=hm r hr;have j2:aB T j=some [.aa false (aj r)]:=by rw[hS.nth];exact hTj
   have n1:zy (Int.ofNat j) c=true:=by rw[hS.yC];exact decide_eq_true (show(0:Int)<=(j:Int)/\(j:Int)<(c:Int) by omega)
   have n2:bg 0 (Int.ofNat j)=j:=by rw[hS.idx];simp
   have lR1:(dL ((C.take j).map mv)).length=j:=by rw[mD,List.length_map,List.length_take];omega
   have z3:aB R j=some [.aa true []]:=by
    rw[hS.nth,hR,List.getElem?_append_right (by omega),lR1,Nat.sub_self,List.getElem?_replicate,if_pos (by omega)]
   have mY:R.set j [.aa false (aj (mv r))]=dL ((C.take (j+1)).map mv)++List.replicate (c-(j+1)) [.aa true []]:=by
    rw[fc,hR,List.set_append_right _ _ (by omega),lR1,Nat.sub_self,show c-j=c-(j+1)+1 by omega,List.replicate_succ,List.set_cons_zero,List.map_append];simp[dL]
   obtain⟨Z,hZ⟩:=aq (aj r);obtain⟨Z2,UL⟩:=aq (aj (mv r));rw[<-hZ]at cm j2;rw[<-UL]at cm mY;have z4:bA R j (aZ [.aa true []] 0 [.aa false Z2])=R.set j [.aa false Z2]:=by rw[hS.E9];rfl
   clear hTj hR fc hr v8 hZ UL;cbv;apply bT l1;rw[j1,j2];cbv;apply nd n0;simp only[yN];refine hS.cl cm ?_;cbv;apply nd n1;simp only[n2,z3];cbv;refine aU [(2,2),(3,3),(4,4),(7,7),(8,8)] (R.set j [.aa false Z2]) ?_ ?_ ?_ ?_ rfl (by show 2<=9;omega) mY
   ·simp[bd,Cg,ae,vi,vb,AV.aw,AV.aJ,Cell.aw,ak,i1]
   ·simp[bf,Cg,fB,fT,NF,Jm,ae,Abs.look,ak,aA.aw,Cell.aw,z4]
   ·simp[aF,Cg,fB,fT,NF,Jm,ae,ak]
   ·simp
  ·intro R hR
   have UE:zV (Int.ofNat c) ci=false:=by rw[<-tN];exact hS.fh lT
   rw[Nat.sub_self,List.replicate_zero,List.append_nil,List.take_of_length_le (by omega)]at hR;have UU:=hS.whole (r:=R) (len:=c) (by rw[hR,mD,List.length_map,hc]);have f1:=UU.1;have f2:=UU.2;clear UU;rw[<-hR]at hF;cbv;refine bF UE (nd f1 ?_);rw[f2];exact aC hF
theorem pL (N M k N1 k1:Int) (E D:Tree) (E1 D1:Abs.Rows) (E' D':aS) (aG C:Tree) (abO C1:Abs.Rows) (q q1:jJ) (b:Bool)
  (hc:aH 14 [.val (.agg (fT N E D k aG C q)),.val (.agg (kT M E' D'))] ⟨[.val (.agg (fT N1 (.aa false E1) (.aa false D1) k1 (.aa false abO) (.aa false C1) q1)),.val (tb b)],[none,none]⟩) :
  aH 17 [.val (.agg (fT N E D k aG C q)),.val (.agg (kT M E' D'))] ⟨[.val (tb (!b))],[none,none]⟩:=by
 unfold kT at *;generalize aj E'=Y,aj D'=Y2 at *;unfold fT at *;refine an ai mixed [.val] Tryz.func17 rfl rfl (by kernel_rfl) ?_;intros;rename_i zY _ _ _ _ _ _ _ _ _ _ _ _ _ _ _ _ _ _ _ _ _ _ _ _ _ _ _ _ _ _ _ _ _ _ A L F hS hF;have y:zY b=!b:=hS.not b;cbv;refine hS.cl hc ?_;cbv;exact bc hF (jf y)
theorem SP.kp {p:List T2} (h:SP p):KP p:=⟨h.int,by have:=h.len;omega⟩
theorem lpS {l:aS} (h:∀p∈l,SP p) (hn:l.length<=1000):LP l:=⟨fun p hp=>(h p hp).kp,hn⟩
def usA (k:Int) (aG:aS) (C:fi) (i:Nat):Bool:=yW k||KJ k aG C i
structure UF (m:Nat) (k:Int) (aG:aS) (C:fi):Prop where
 kk:1<=k/\k<=13
 nb:yW k=false->k≠12->aG.length=m
 b:k=12->∀r∈C,r.length=m
 lc:C.length<=1000
theorem Qx (N:Int) (E:aS) (D:Tree) (k:Int) (aG:aS) (C:fi) (q:jJ) (hE:E.length<=1000) (h:UF E.length k aG C) :
  aH 12 [.val (.agg (fT N (.aa false (aj E)) D k (.aa false (aj aG)) (.aa false (dL C)) q))] ⟨[.val (tl (W .i64 (jR (usA k aG C) E.length)))],[none]⟩:=by
 refine Ig N E D k _ _ q (yW k) (KJ k aG C) hE (qQ k h.kk q) fun hw i hi=>?_
 unfold KJ
 by_cases iH:k=12
 ·subst iH;rw[if_pos rfl];exact TD N _ D _ C E.length (by omega) h.lc (h.b rfl) q i hi
 ·rw[if_neg iH];exact PT N _ D _ k iH aG (by have:=h.nb hw iH;omega) q i (by rw[h.nb hw iH];exact hi)
def LJ (E E' l:aS):aS:=UK l (E.map (nc 0 E')) E'.length
def Jx (N:Int) (E D:aS) (k:Int) (aG:aS) (C:fi) (M:Int) (E' D':aS):Bool:=
 uY N E D k M E' D'&&(yW k||decide (∀i,i<E.length->KJ k aG C i=true->E.getD i []∈E'))
theorem vV {to:aS} {p:List T2}:∀ {k:Nat},0<=nc k to p↔p∈to:=by
 induction to with
 | nil=>intro k;simp[nc]
 | cons x l ih=>
  intro k;unfold nc;split
  ·rename_i e;subst e;simp
  ·rename_i e;rw[ih];simp[Ne.symm e]
theorem yb {v:Nat->Bool} {n:Nat} {x:Int}:x∈jR v n↔∃i,i<n/\v i=true/\x=(i:Int):=by
 unfold jR;simp only[List.mem_map,List.mem_filter,List.mem_range];exact⟨fun⟨i,⟨h1,h2⟩,h3⟩=>⟨i,h1,h2,h3.symm⟩,fun⟨i,h1,h2,h3⟩=>⟨i,⟨h1,h2⟩,h3.symm⟩⟩
theorem NU (E E':aS) {i:Nat} (hi:i<E.length):(E.map (nc 0 E')).getD i (-1)=nc 0 E' (E.getD i []):=by
 rw[List.getD_eq_getElem?_getD,List.getD_eq_getElem?_getD,List.getElem?_map,List.getElem?_eq_getElem hi];rfl
theorem RE (E E':aS):∀a∈E.map (nc 0 E'),a<(E'.length:Int):=by
 intro a ha;obtain⟨p,_,rfl⟩:=List.mem_map.1 ha;rcases xR (to:=E') (k:=0) (p:=p) with h|⟨j,_,h2,h3⟩
 ·omega
 ·omega
theorem NV (E E':aS) (v:Nat->Bool):(∀i,i<E.length->v i=true->E.getD i []∈E')↔∀x∈jR v E.length,0<=(E.map (nc 0 E')).getD x.toNat (-1):=by
 constructor
 ·intro h x hx
  obtain⟨i,h1,h2,rfl⟩:=yb.1 hx;rw[Int.toNat_natCast,NU E E' h1];exact vV.2 (h i h1 h2)
 ·intro h i h1 h2
  have:=h (i:Int) (yb.2 ⟨i,h1,h2,rfl⟩);rw[Int.toNat_natCast,NU E E' h1]at this;exact vV.1 this
def ux (E E':aS) (k:Int) (aG:aS):aS:=if yW k=true∨k=12 then aG else LJ E E' aG
def Lj (E E':aS) (k:Int) (C:fi):fi:=if k=12 then C.map (LJ E E') else C
theorem ly {l:aS} (h:mW l):l.Nodup:=h.nodup
theorem Gq (N:Int) (E D:aS) (k:Int) (aG:aS) (C:fi) (q:jJ) (M:Int) (E' D':aS) (hE:LP E) (hD:LP D) (vC:LP E') (OE:LP D') (hn:E'.Nodup) (h:UF E.length k aG C) :
  aH 14 [.val (.agg (fT N (.aa false (aj E)) (.aa false (aj D)) k (.aa false (aj aG)) (.aa false (dL C)) q)),.val (.agg (kT M E' D'))]
   ⟨[.val (.agg (if Jx N E D k aG C M E' D'=true then fT M (.aa false (aj E')) (.aa false (aj D')) k (.aa false (aj (ux E E' k aG))) (.aa false (dL (Lj E E' k C))) q else zF)),.val (tb (Jx N E D k aG C M E' D'))],[none,none]⟩:=by
 have hf:=K3 N M k E D E' D' hE hD vC OE h.kk (.aa false (aj aG)) (.aa false (dL C)) q;have hw:=qQ k h.kk q;have hu:=Qx N E (.aa false (aj D)) k aG C q hE.n h;have hp:=F4 E E' hE.k vC.k hn hE.n vC.n;unfold Jx ux Lj;cases ef:uY N E D k M E' D' with
 | false=>
  rw[ef]at hf;rw[Bool.false_and,if_neg (by decide)];exact K4 N M k E D E' D' _ _ q hf
 | true=>
  rw[ef]at hf;cases ew:yW k with
  | true=>
   rw[ew]at hw;have iH:k≠12:=by rintro rfl;exact absurd ew (by decide)
   rw[Bool.true_and,Bool.true_or,if_pos rfl,if_pos (Or.inl rfl),if_neg iH];exact K5 N M k E D E' D' _ _ q hf hw
  | false=>
   rw[ew]at hw;have eu:usA k aG C=KJ k aG C:=by funext i;unfold usA;rw[ew,Bool.false_or]
   rw[eu]at hu;rw[Bool.true_and,Bool.false_or];have Ro:∀x∈jR (KJ k aG C) E.length,0<=x/\x<(E.length:Nat):=by
    intro x hx;obtain⟨i,h1,_,rfl⟩:=yb.1 hx;omega
   have hL:(jR (KJ k aG C) E.length).length<=1000:=Nat.le_trans (Gk _ _) hE.n
   by_cases iH:k=12
   ·subst iH
    rw[if_pos (Or.inr rfl),if_pos rfl];exact NT N M E D E' D' (.aa false (aj aG)) C q (E.map (nc 0 E')) _ E.length _ (LJ E E') h.lc hL Ro (by simp) (by rw[decide_eq_true_iff];exact NV E E' _) hf hw hp hu
     fun _ r hr=>BS r (E.map (nc 0 E')) E'.length (by rw[h.b rfl r hr];exact hE.n) vC.n (by rw[List.length_map,h.b rfl r hr]) (RE E E')
   ·rw[if_neg (show ¬(false=true∨k=12) by simp[iH]),if_neg iH]
    have hc:=h.nb ew iH;exact K6 N M k E D E' D' (.aa false (aj aG)) (.aa false (dL C)) q (E.map (nc 0 E')) _ E.length _ (aj (LJ E E' aG)) iH hL Ro (by simp) (by rw[decide_eq_true_iff];exact NV E E' _) hf hw hp hu
     fun _=>BS aG (E.map (nc 0 E')) E'.length (by rw[hc];exact hE.n) vC.n (by rw[List.length_map,hc]) (RE E E')
theorem Ir (N:Int) (E D:aS) (k:Int) (aG:aS) (C:fi) (q:jJ) (M:Int) (E' D':aS) (hE:LP E) (hD:LP D) (vC:LP E') (OE:LP D') (hn:E'.Nodup) (h:UF E.length k aG C) :
  aH 17 [.val (.agg (fT N (.aa false (aj E)) (.aa false (aj D)) k (.aa false (aj aG)) (.aa false (dL C)) q)),.val (.agg (kT M E' D'))] ⟨[.val (tb (!Jx N E D k aG C M E' D'))],[none,none]⟩:=by
 have hc:=Gq N E D k aG C q M E' D' hE hD vC OE hn h;cases hh:Jx N E D k aG C M E' D' with
 | true=>
  rw[hh,if_pos rfl]at hc;exact pL N M k M k _ _ _ _ E' D' _ _ _ _ q q true hc
 | false=>
  rw[hh,if_neg (by decide)]at hc;exact pL N M k 0 0 _ _ _ _ E' D' _ _ _ _ q kE false hc
end Go.Proofs.YtekefilngojelaaGreat
end
