/- A part. -/
import Derived.Test.YtekefilngojelaaGreatM13
import Derived.Test.YtekefilngojelaaGreatM18
import Derived.Test.YtekefilngojelaaGreatM21
import Derived.Test.YtekefilngojelaaGreatM25
import Derived.Test.YtekefilngojelaaGreatM27
import Derived.Test.YtekefilngojelaaGreatM30
import Derived.Test.YtekefilngojelaaGreatM31
import Derived.Test.YtekefilngojelaaGreatM32
set_option maxHeartbeats 0
set_option maxRecDepth 100000
set_option linter.unusedVariables false
set_option linter.unusedSimpArgs false
section
namespace Go.Proofs.YtekefilngojelaaGreat
open Go Go.Abs Go.Abs.M Go.Proofs
theorem GH (K:Int) (hK:0<=K) (l:List (List R5)) (hl:L5 l) (v:List Int) (hv:JN v) :
  ∃(E D:List (List T2)) (k:Int) (aG:List (List T2)) (C:List (List (List T2))) (q:jC),NM 2 E D/\(∀p∈E,SP p)/\(∀p∈D,SP p)/\E.length<=2/\D.length<=1/\mo E.length k aG C q /\
   ah Tryz.prog 9 [.val (.agg (mq K l v))] ⟨[.val (.agg (fT 2 (.aa false (an E)) (.aa false (an D)) k (.aa false (an aG)) (.aa false (di C)) q))],[none]⟩:=by
 obtain⟨E,D,hk,hE,hD,lE,lD,cK⟩:=yc K l hl v hv;have hR:∃a b c,mq K l v=[a,b,c]:=⟨_,_,_,rfl⟩;obtain⟨j,hj⟩:∃j,j=K.tmod 13:=⟨_,rfl⟩;have aiR:0<=j/\j<13:=by rw[hj];exact⟨Int.tmod_nonneg _ hK,Int.tmod_lt_of_pos _ (by decide)⟩
 obtain⟨P,O1,Lc,n,q,c,cd,dd,rr,hP,hO,hL,lL,hn,hc,hd,hr,m1,m2,m3,m4,m5,m6,m9,m10,m11,m12,m13⟩:=Og K l hl v hv;obtain⟨kZ,en,T,G1,O2,C1,G,O,C,Q,Sx,c1,c2,n1,hT,bo,ba,R9⟩:=Oi K l hl v hv 2 E lE (an D) Lc lL;obtain⟨Yl,Sq,c3,c4,s1,s2,K7⟩:=LB K l hl v hv 2 E lE (an D);obtain⟨G3,O3,C3,Q3,Sx3,U,U1,At,a,ba3,ro,WZ⟩:=LC K l hl v hv 2 E lE (an D);have mk:=fun k aG C q (h:mo E.length k aG C q) (hc)=>(⟨E,D,k,aG,C,q,hk,hE,hD,lE,lD,h,hc⟩:∃(E D:List (List T2)) (k:Int) (aG:List (List T2)) (C:List (List (List T2))) (q:jC),NM 2 E D/\(∀p∈E,SP p)/\(∀p∈D,SP p)/\E.length<=2/\D.length<=1/\mo E.length k aG C q /\
   ah Tryz.prog 9 [.val (.agg (mq K l v))] ⟨[.val (.agg (fT 2 (.aa false (an E)) (.aa false (an D)) k (.aa false (an aG)) (.aa false (di C)) q))],[none]⟩)
 have w:=fun k cn cd cr P O Lc Sg B x=>IA _ hR 2 k cn cd cr (an E) (an D) P O Lc Sg B x cK
 rcases(show j=0∨j=1∨j=2∨j=3∨j=4∨j=5∨j=6∨j=7∨j=8∨j=9∨j=10∨j=11∨j=12 by omega) with rfl|rfl|rfl|rfl|rfl|rfl|rfl|rfl|rfl|rfl|rfl|rfl|rfl
 ·exact mk _ _ _ _ (.k1 P kZ hP c1 c2) (w _ _ _ _ _ _ _ _ _ _ (m1 hj.symm) (R9 ..).1)
 ·exact mk _ _ _ _ (.k2 P C G O Q Sx hP ba) (w _ _ _ _ _ _ _ _ _ _ (m2 hj.symm) (R9 ..).2.2.2.2.1)
 ·exact mk _ _ _ _ (.k3 en kZ n1 c1 c2) (w _ _ _ _ _ _ _ _ _ _ (m3 hj.symm) (R9 ..).2.1)
 ·exact mk _ _ _ _ (.k4 O1 Lc C G O Q Sx hO hL lL ba) (w _ _ _ _ _ _ _ _ _ _ (m4 hj.symm) (R9 ..).2.2.2.2.2.1)
 ·exact mk _ _ _ _ (.k5 c cd C G O Q Sx hc hd ba) (w _ _ _ _ _ _ _ _ _ _ (m5 hj.symm) (R9 ..).2.2.2.2.2.2.1)
 ·exact mk _ _ _ _ (.k6 n dd rr C G O Q Sx hn hr ba) (w _ _ _ _ _ _ _ _ _ _ (m6 hj.symm) (R9 ..).2.2.2.2.2.2.2)
 ·obtain⟨_,Z,_,_,hZ,lZ,_,_,cC,_⟩:=Ci K l hl v hv
  have cC:=cC hj.symm;exact mk _ _ _ _ (.k7 Z C3 G3 O3 Q3 Sx3 U U1 At a hZ lZ ba3 ro) (w _ _ _ _ _ _ _ _ _ _ cC (WZ ..).1)
 ·obtain⟨P,Z,Sg,hP,hZ,lZ,hg,lg,_,cC⟩:=Ci K l hl v hv
  have cC:=cC hj.symm;exact mk _ _ _ _ (.k8 P Z Sg C3 G3 O3 Q3 Sx3 U U1 At a hP hZ lZ hg lg ba3 ro) (w _ _ _ _ _ _ _ _ _ _ cC (WZ ..).2)
 ·exact mk _ _ _ _ (.k9 Yl Sq c3 c4 s1 s2) (w _ _ _ _ _ _ _ _ _ _ (m9 hj.symm) (K7 ..).1)
 ·exact mk _ _ _ _ (.Ld P Yl Sq hP c3 c4 s1 s2) (w _ _ _ _ _ _ _ _ _ _ (m10 hj.symm) (K7 ..).2)
 ·exact mk _ _ _ _ (.OO Lc T hL lL hT) (w _ _ _ _ _ _ _ _ _ _ (m11 hj.symm) (R9 [] 0 0 0 [] [] [] []).2.2.1)
 ·exact mk _ _ _ _ (.Ud n C1 G1 O2 hn bo) (w _ _ _ _ _ _ _ _ _ _ (m12 hj.symm) (R9 ..).2.2.2.1)
 ·obtain⟨Xs,Bs,x1,x2,b1,b2,cE⟩:=IL K l hl v hv 2 E lE (an D) [] n 0 0 [] [] [] []
  exact mk _ _ _ _ (.ZM n Xs Bs hn x1 x2 b1 b2) (w _ _ _ _ _ _ _ _ _ _ (m13 hj.symm) cE)
def Cm (N M:Int) (X X2 Y Y2 T:Abs.Rows) (aG:Tree) (q:jC) (av:Abs.Rows) (c:Nat) (ci:Int) (R:Abs.Rows) (J:Int):St:=ae 91 [.af,.af,.c (.ptr 2 0 0),.c (.ptr 3 0 0),.c (.ptr 4 0 0),vb false,.c (.ptr 7 0 0),.c (.t (.aa false av)),.af,.af,.af,.af,.af,.af,.af,.af,.af,.af,.af,.af,.af,.af,.af,.af,.af,.af,.af,.af,.af,.af,.af,.af,.af,.af,.af,.af,.af,.af,.af,.af,.af,.af,.af,.af,.af,.af,.af,.af,.af,.af,.af,.af,.af,.af,.af,.af,.af,.af,.af,.af,.af,.af,.af,.af,.af,.af,.af,.af,.af,.af,.af,.c (.t (.aa false T)),vi .i64 ci,vi .i64 J] [none,none,fB N (.aa false X) (.aa false X2) 12 aG (.aa false T) q,N5 M (.aa false Y) (.aa false Y2),some (.var (JM.map .t)),none,none,some (.var [.t (.v (.int .i64 M)),.t (.aa false Y),.t (.aa false Y2),.t (.v (.int .i64 12)),.t (.aa false q.P),.t (.v (.int .i64 q.cn)),.t (.v (.int .i64 q.cd)),.t (.v (.int .i64 q.cr)),.t (.aa false q.O),.t (.aa false q.Lc),.t (.aa false q.S),.t (.aa false q.B),.t (.v (.int .i64 q.eN)),.t aG,.t (.aa false q.G),.t (.aa false q.eO),.sl 8 0 c false,.t (.aa false q.Q),.t (.aa false q.Sx),.t (.v (.int .i64 q.r0)),.t (.v (.int .i64 q.r1)),.t (.v (.int .i64 q.r2)),.t (.v (.int .i64 q.r3)),.t (.v (.int .i64 q.r4)),.t (.v (.int .i64 q.r5)),.t (.v (.int .i64 q.r6)),.t (.v (.int .i64 q.r7)),.t (.aa false q.r8),.t (.aa false q.r9),.t (.aa false q.TR),.t (.aa false q.W4),.t (.aa false q.W5),.t (.aa false q.W6),.t (.aa false q.W7),.t (.aa false q.W8),.t (.aa false q.Zi),.t (.aa false q.At),.t (.aa false q.Sq),.t (.aa false q.X),.t (.aa false q.eB)]),some (.rows 1 R true false)]
theorem Oj (N M:Int) (E D E' D':List (List T2)) (aG:Tree) (C:List (List (List T2))) (q:jC) (av ix:List Int) (n:Nat) (b:Bool) (mv:List (List T2)->List (List T2)) (hC:C.length<=1000)
  (hL:ix.length<=1000) (RR:∀x∈ix,0<=x/\x<n) (eI:av.length=n) (hb:b=true↔∀x∈ix,0<=av.getD x.toNat (-1))
  (hf:ah Tryz.prog 40 [.val (.agg (fT N (.aa false (an E)) (.aa false (an D)) 12 aG (.aa false (di C)) q)),.val (.agg (kT M E' D'))] ⟨[.val (tb true)],[none,none]⟩)
  (hw:ah Tryz.prog 25 [.val (.agg (cT 12 q))] ⟨[.val (tb false)],[none]⟩)
  (hp:ah Tryz.prog 41 [.val (tl (an E)),.val (tl (an E'))] ⟨[.val (tl (W .i64 av))],[none,none]⟩)
  (hu:ah Tryz.prog 12 [.val (.agg (fT N (.aa false (an E)) (.aa false (an D)) 12 aG (.aa false (di C)) q))] ⟨[.val (tl (W .i64 ix))],[none]⟩)
  (hm:b=true->∀r∈C,ah Tryz.prog 42 [.val (tl (an r)),.val (tl (W .i64 av)),.val (ti .i64 (E'.length:Int))] ⟨[.val (tl (an (mv r)))],[none,none,none]⟩) :
  ah Tryz.prog 14 [.val (.agg (fT N (.aa false (an E)) (.aa false (an D)) 12 aG (.aa false (di C)) q)),.val (.agg (kT M E' D'))] ⟨[.val (.agg (if b=true then fT M (.aa false (an E')) (.aa false (an D')) 12 aG (.aa false (di (C.map mv))) q else zF)),.val (tb b)],[none,none]⟩:=by
 have hz:=ID;obtain⟨Av,Ua⟩:∃Z,Z=W .i64 av:=⟨_,rfl⟩;obtain⟨Lr,QB⟩:∃Z,Z=W .i64 ix:=⟨_,rfl⟩;obtain⟨l,hl⟩:∃l,l=ix.length:=⟨_,rfl⟩;obtain⟨m,UC⟩:∃m:Int,m=(l:Int):=⟨_,rfl⟩;have QD:Lr.length=l:=by rw[QB,jf,hl]
 have lY:(an E').length=E'.length:=nU _;obtain⟨el,RS⟩:∃el:Int,el=(E'.length:Int):=⟨_,rfl⟩;rw[<-Ua]at hp hm;obtain⟨T,hT⟩:∃Z,Z=di C:=⟨_,rfl⟩;obtain⟨c,hc⟩:∃c,c=C.length:=⟨_,rfl⟩;have lT:T.length=c:=by rw[hT,jY,hc]
 obtain⟨ci,Nn⟩:∃ci:Int,ci=(c:Int):=⟨_,rfl⟩;rw[<-hT]at hf hu ⊢;rw[<-QB]at hu;rw[<-RS]at hm;unfold kT cT at *;generalize an E=X,an D=X2,an E'=Y,an D'=Y2 at *;unfold fT at *;refine ar aj mixed [.val,.val] Tryz.func14 rfl rfl (by kernel_rfl) fun zD zE _ _ _ _ _ _ _ _ _ _ _ zU zV zX zY _ _ _ _ zu zy zz bd _ _ _ _ _ aR ab aD bz aL aw _ _ _ _ _ bO _ _ _ _ _ _ _ _ _ A L F hS hF=>?_
 have y:zY true=false:=by rw[hS.not];rfl
 have lN:zz (ab Lr)=m:=by rw[hS.aB,hS.len,QD,UC]
 have yN:zz (ab Y)=el:=by rw[hS.aB,hS.len,lY,RS]
 have zk:zU 12 12=false:=by rw[hS.ne];rfl
 have tN:zz (ab T)=ci:=by rw[hS.aB,hS.len,lT,Nn]
 cbv;refine⟨_,hS.call hf,?_⟩;cbv;refine bF y ?_;refine⟨_,hS.call hw,?_⟩;cbv;refine bF rfl ?_;refine⟨_,hS.call hp,?_⟩;cbv;refine⟨_,hS.call hu,?_⟩;cbv;simp only[lN];refine nA aj mixed hS (n:=l) (fun j (d:Unit)=>vz N M 12 X X2 Y Y2 aG (.aa false T) q Av Lr m (Int.ofNat j)) (fun j d=>∀x∈ix.take j,0<=av.getD x.toNat (-1)) (a0:=()) (fi ?_ ?_) rfl (Nat.le_add_left 2 6) (by simp) ?_ ?_
 ·simp[dO,vz,ae,vi,vb]
 ·simp[dP,vz,fB,fT,N5,JM,ae]
 ·intro j d hj hd
  have l1:zV (Int.ofNat j) m=true:=by rw[<-lN];exact(hS.gC QD hj (by omega)).1
  have i1:zD .i64 (zE (j:Int) 1)=(j:Int)+1:=(hS.gC QD hj (by omega)).2.1;have j1:zu (Int.ofNat j)=j:=by rw[hS.nat];rfl
  have n0:zX 0 (Int.ofNat j)=true:=by rw[hS.le];exact decide_eq_true (show(0:Int)<=(j:Int) by omega)
  have Lu:j<ix.length:=by omega
  obtain⟨x,hx⟩:∃x:Nat,(x:Int)=ix[j]:=⟨ix[j].toNat,by have:=(RR _ (List.getElem_mem Lu)).1;omega⟩;have hxn:x<n:=Int.ofNat_lt.1 (by rw[hx];exact(RR _ (List.getElem_mem Lu)).2);have eC:ix.take (j+1)=ix.take j ++ [(x:Int)]:=by rw[List.take_add_one,List.getElem?_eq_getElem Lu,hx];rfl
  have g1:aL .i64 Lr j=true:=by rw[hS.gE,QB,kM];exact decide_eq_true Lu
  have g2:aw Lr j=Int.ofNat x:=by rw[hS.dF,QB,mP,List.getD_eq_getElem?_getD,List.getElem?_eq_getElem Lu];exact hx.symm
  obtain⟨a,ha⟩:∃a,a=av.getD x (-1):=⟨_,rfl⟩;have g3:aL .i64 Av x=true:=by rw[hS.gE,Ua,kM];exact decide_eq_true (by omega)
  have g4:aw Av x=a:=by rw[hS.dF,Ua,mP,ha,List.getD_eq_getElem?_getD,List.getD_eq_getElem?_getD,List.getElem?_eq_getElem (show x<av.length by omega)];rfl
  have j3:zu (Int.ofNat x)=x:=by rw[hS.nat];rfl
  have n3:zX 0 (Int.ofNat x)=true:=by rw[hS.le];exact decide_eq_true (show(0:Int)<=(x:Int) by omega)
  by_cases h0:a<0
  ·have z0:zV a 0=true:=by rw[hS.lt];exact decide_eq_true h0
   have Ju:b=false:=by
    cases bK:b with
    | false=>rfl
    | true=>
     have:=hb.1 bK (x:Int) (by rw[hx];exact List.getElem_mem Lu);rw[Int.toNat_natCast,<-ha]at this;omega
   rw[Ju]at hF;clear hx eC ha;cbv;refine bT l1 ?_;simp only[j1,g2,j3,g4];refine nd n0 (nd g1 (nd n3 (nd g3 (bT z0 ?_))));exact Fy hF hz (je.refl _)
  ·have z0:zV a 0=false:=by rw[hS.lt];exact decide_eq_false h0
   have hR:∀x∈ix.take (j+1),0<=av.getD x.toNat (-1):=by
    rw[eC];intro z hz;rcases List.mem_append.1 hz with hz|hz
    ·exact hd z hz
    ·rw[List.mem_singleton.1 hz,Int.toNat_natCast,<-ha];omega
   clear hx eC ha;cbv;refine bT l1 ?_;simp only[j1,g2,j3,g4];refine nd n0 (nd g1 (nd n3 (nd g3 (bF z0 ?_))));refine aQ [(2,2),(3,3),(4,4),(7,7)] () ?_ ?_ ?_ ?_ rfl (Nat.le_add_left 2 6) hR
   ·simp[aZ,vz,ae,vi,vb,AV.ay,AV.aI,Cell.ay,aq,i1]
   ·simp[a8,vz,fB,fT,N5,JM,ae,Abs.look,aq,aC.ay,Cell.ay]
   ·simp[aF,vz,fB,fT,N5,JM,ae,aq]
   ·simp
 ·intro d hd
  rw[List.take_of_length_le (by omega)]at hd;have XB:b=true:=hb.2 hd;have lE:zV (Int.ofNat l) m=false:=by rw[<-lN];exact hS.eU QD
  have hm:=hm XB;rw[XB]at hF;rw[if_pos rfl]at hF;have Nn:ci=(c:Int):=Nn;have k1:aR ci ci 24=true:=by rw[hS.nq,Nn];exact decide_eq_true ⟨by omega,by omega,by unfold az;omega⟩
  have k2:zu ci=c:=by rw[hS.nat,Nn];rfl
  obtain⟨R0,I5⟩:∃Z:Abs.Rows,Z=List.replicate c [.aa true []]:=⟨_,rfl⟩;have k3:bO c [.aa true []]=R0:=by rw[hS.rep,I5]
  cbv;refine bF lE (bF zk ?_);simp only[tN,k2,k3];refine nd k1 ?_;have wc:∀ {j:Nat} (hj:j<c),∃r∈C,T[j]?=some [.aa false (an r)]/\C.take (j+1)=C.take j ++ [r]:=fun {j} hj=>by
   obtain⟨r,h1,_,h2,h3⟩:=DG (l:=C) (i:=j) (by omega);exact⟨r,h1,by rw[hT];exact h2,h3⟩
  refine nA aj mixed hS (n:=c) (fun j (R:Abs.Rows)=>Cm N M X X2 Y Y2 T aG q Av c ci R (Int.ofNat j)) (fun j R=>R=di ((C.take j).map mv)++List.replicate (c-j) [.aa true []]) (a0:=R0) (fi ?_ ?_) rfl (by show 2<=9;omega) (by rw[I5];rfl) ?_ ?_
  ·simp[dO,Cm,ae,vi,vb]
  ·simp[dP,Cm,fB,fT,N5,JM,ae]
  ·intro j R hj hR
   have l1:zV (Int.ofNat j) ci=true:=by rw[<-tN];exact(hS.gC lT hj (by omega)).1
   have i1:zD .i64 (zE (j:Int) 1)=(j:Int)+1:=(hS.gC lT hj (by omega)).2.1;have j1:zu (Int.ofNat j)=j:=by rw[hS.nat];rfl
   have n0:zX 0 (Int.ofNat j)=true:=by rw[hS.le];exact decide_eq_true (show(0:Int)<=(j:Int) by omega)
   obtain⟨r,hr,hTj,eC⟩:=wc hj;have cm:=hm r hr;have j2:aD T j=some [.aa false (an r)]:=by rw[hS.nth];exact hTj
   have n1:zy (Int.ofNat j) c=true:=by rw[hS.yF];exact decide_eq_true (show(0:Int)<=(j:Int)/\(j:Int)<(c:Int) by omega)
   have n2:bd 0 (Int.ofNat j)=j:=by rw[hS.idx];simp
   have lR1:(di ((C.take j).map mv)).length=j:=by rw[jY,List.length_map,List.length_take];omega
   have z3:aD R j=some [.aa true []]:=by
    rw[hS.nth,hR,List.getElem?_append_right (by omega),lR1,Nat.sub_self,List.getElem?_replicate,if_pos (by omega)]
   have qK:R.set j [.aa false (an (mv r))]=di ((C.take (j+1)).map mv)++List.replicate (c-(j+1)) [.aa true []]:=by
    rw[eC,hR,List.set_append_right _ _ (by omega),lR1,Nat.sub_self,show c-j=c-(j+1)+1 by omega,List.replicate_succ,List.set_cons_zero,List.map_append];simp[di]
   obtain⟨Z,hZ⟩:∃Z,Z=an r:=⟨_,rfl⟩;obtain⟨Z2,ZK⟩:∃Z,Z=an (mv r):=⟨_,rfl⟩;rw[<-hZ]at cm j2;rw[<-ZK]at cm qK;have z4:bz R j (aX [.aa true []] 0 [.aa false Z2])=R.set j [.aa false Z2]:=by rw[hS.Fl];rfl
   clear hTj hR eC hr wc hZ ZK;cbv;refine bT l1 ?_;rw[j1,j2];cbv;refine nd n0 ?_;simp only[yN];refine⟨_,hS.call cm,?_⟩;cbv;refine nd n1 ?_;simp only[n2,z3];cbv;refine aQ [(2,2),(3,3),(4,4),(7,7),(8,8)] (R.set j [.aa false Z2]) ?_ ?_ ?_ ?_ rfl (by show 2<=9;omega) qK
   ·simp[aZ,Cm,ae,vi,vb,AV.ay,AV.aI,Cell.ay,aq,i1]
   ·simp[a8,Cm,fB,fT,N5,JM,ae,Abs.look,aq,aC.ay,Cell.ay,z4]
   ·simp[aF,Cm,fB,fT,N5,JM,ae,aq]
   ·simp
  ·intro R hR
   have TA:zV (Int.ofNat c) ci=false:=by rw[<-tN];exact hS.eU lT
   rw[Nat.sub_self,List.replicate_zero,List.append_nil,List.take_of_length_le (by omega)]at hR;have UU:=hS.whole (r:=R) (len:=c) (by rw[hR,jY,List.length_map,hc]);have f1:=UU.1;have f2:=UU.2;clear UU;rw[<-hR]at hF;cbv;refine bF TA (nd f1 ?_);rw[f2];exact hF _ (ak.refl _)
theorem SP.kp {p:List T2} (h:SP p):KP p:=⟨h.int,by have:=h.len;omega⟩
theorem lpS {l:List (List T2)} (h:∀p∈l,SP p) (hn:l.length<=1000):LP l:=⟨fun p hp=>(h p hp).kp,hn⟩
def usA (k:Int) (aG:List (List T2)) (C:List (List (List T2))) (i:Nat):Bool:=yq k||Ig k aG C i
structure UF (m:Nat) (k:Int) (aG:List (List T2)) (C:List (List (List T2))):Prop where
 kk:1<=k/\k<=13
 nb:yq k=false->k≠12->aG.length=m
 b:k=12->∀r∈C,r.length=m
 lc:C.length<=1000
theorem QP (N:Int) (E:List (List T2)) (D:Tree) (k:Int) (aG:List (List T2)) (C:List (List (List T2))) (q:jC) (hE:E.length<=1000) (h:UF E.length k aG C) :
  ah Tryz.prog 12 [.val (.agg (fT N (.aa false (an E)) D k (.aa false (an aG)) (.aa false (di C)) q))] ⟨[.val (tl (W .i64 (jK (usA k aG C) E.length)))],[none]⟩:=by
 refine IC N E D k _ _ q (yq k) (Ig k aG C) hE (qH k h.kk q) fun hw i hi=>?_
 unfold Ig
 by_cases ff:k=12
 ·subst ff;rw[if_pos rfl];exact T8 N _ D _ C E.length (by omega) h.lc (h.b rfl) q i hi
 ·rw[if_neg ff];exact Qc N _ D _ k ff aG (by have:=h.nb hw ff;omega) q i (by rw[h.nb hw ff];exact hi)
def yr (E E' l:List (List T2)):List (List T2):=Vf l (E.map (mQ 0 E')) E'.length
def Eu (N:Int) (E D:List (List T2)) (k:Int) (aG:List (List T2)) (C:List (List (List T2))) (M:Int) (E' D':List (List T2)):Bool:=
 uW N E D k M E' D'&&(yq k||decide (∀i,i<E.length->Ig k aG C i=true->E.getD i []∈E'))
theorem v8 {to:List (List T2)} {p:List T2}:∀ {k:Nat},0<=mQ k to p↔p∈to:=by
 induction to with
 | nil=>intro k;simp[mQ]
 | cons x l ih=>
  intro k;unfold mQ;split
  ·rename_i e;subst e;simp
  ·rename_i e;rw[ih];simp[Ne.symm e]
theorem yg {v:Nat->Bool} {n:Nat} {x:Int}:x∈jK v n↔∃i,i<n/\v i=true/\x=(i:Int):=by
 unfold jK;simp only[List.mem_map,List.mem_filter,List.mem_range];exact⟨fun⟨i,⟨h1,h2⟩,h3⟩=>⟨i,h1,h2,h3.symm⟩,fun⟨i,h1,h2,h3⟩=>⟨i,⟨h1,h2⟩,h3.symm⟩⟩
theorem Ok (E E':List (List T2)) {i:Nat} (hi:i<E.length):(E.map (mQ 0 E')).getD i (-1)=mQ 0 E' (E.getD i []):=by
 rw[List.getD_eq_getElem?_getD,List.getD_eq_getElem?_getD,List.getElem?_map,List.getElem?_eq_getElem hi];rfl
theorem Sa (E E':List (List T2)):∀a∈E.map (mQ 0 E'),a<(E'.length:Int):=by
 intro a ha;obtain⟨p,_,rfl⟩:=List.mem_map.1 ha;rcases xV (to:=E') (k:=0) (p:=p) with h|⟨j,_,h2,h3⟩
 ·omega
 ·omega
theorem Ol (E E':List (List T2)) (v:Nat->Bool):(∀i,i<E.length->v i=true->E.getD i []∈E')↔∀x∈jK v E.length,0<=(E.map (mQ 0 E')).getD x.toNat (-1):=by
 constructor
 ·intro h x hx
  obtain⟨i,h1,h2,rfl⟩:=yg.1 hx;rw[Int.toNat_natCast,Ok E E' h1];exact v8.2 (h i h1 h2)
 ·intro h i h1 h2
  have:=h (i:Int) (yg.2 ⟨i,h1,h2,rfl⟩);rw[Int.toNat_natCast,Ok E E' h1]at this;exact v8.1 this
def jE (E E':List (List T2)) (k:Int) (aG:List (List T2)):List (List T2):=if yq k=true∨k=12 then aG else yr E E' aG
def yh (E E':List (List T2)) (k:Int) (C:List (List (List T2))):List (List (List T2)):=if k=12 then C.map (yr E E') else C
theorem uj {l:List (List T2)} (h:vj l):l.Nodup:=h.nodup
theorem sH (N:Int) (E D:List (List T2)) (k:Int) (aG:List (List T2)) (C:List (List (List T2))) (q:jC) (M:Int) (E' D':List (List T2)) (hE:LP E) (hD:LP D) (yn:LP E') (Sk:LP D') (hn:E'.Nodup) (h:UF E.length k aG C) :
  ah Tryz.prog 14 [.val (.agg (fT N (.aa false (an E)) (.aa false (an D)) k (.aa false (an aG)) (.aa false (di C)) q)),.val (.agg (kT M E' D'))]
   ⟨[.val (.agg (if Eu N E D k aG C M E' D'=true then fT M (.aa false (an E')) (.aa false (an D')) k (.aa false (an (jE E E' k aG))) (.aa false (di (yh E E' k C))) q else zF)),.val (tb (Eu N E D k aG C M E' D'))],[none,none]⟩:=by
 have hf:=Lp N M k E D E' D' hE hD yn Sk h.kk (.aa false (an aG)) (.aa false (di C)) q;have hw:=qH k h.kk q;have hu:=QP N E (.aa false (an D)) k aG C q hE.n h;have hp:=Gk E E' hE.k yn.k hn hE.n yn.n;unfold Eu jE yh;cases ef:uW N E D k M E' D' with
 | false=>
  rw[ef]at hf;rw[Bool.false_and,if_neg (by decide)];exact Lq N M k E D E' D' _ _ q hf
 | true=>
  rw[ef]at hf;cases ew:yq k with
  | true=>
   rw[ew]at hw;have ff:k≠12:=by rintro rfl;exact absurd ew (by decide)
   rw[Bool.true_and,Bool.true_or,if_pos rfl,if_pos (Or.inl rfl),if_neg ff];exact Ls N M k E D E' D' _ _ q hf hw
  | false=>
   rw[ew]at hw;have eu:usA k aG C=Ig k aG C:=by funext i;unfold usA;rw[ew,Bool.false_or]
   rw[eu]at hu;rw[Bool.true_and,Bool.false_or];have RR:∀x∈jK (Ig k aG C) E.length,0<=x/\x<(E.length:Nat):=by
    intro x hx;obtain⟨i,h1,_,rfl⟩:=yg.1 hx;omega
   have hL:(jK (Ig k aG C) E.length).length<=1000:=Nat.le_trans (GC _ _) hE.n
   by_cases ff:k=12
   ·subst ff
    rw[if_pos (Or.inr rfl),if_pos rfl];exact Oj N M E D E' D' (.aa false (an aG)) C q (E.map (mQ 0 E')) _ E.length _ (yr E E') h.lc hL RR (by simp) (by rw[decide_eq_true_iff];exact Ol E E' _) hf hw hp hu
     fun _ r hr=>BZ r (E.map (mQ 0 E')) E'.length (by rw[h.b rfl r hr];exact hE.n) yn.n (by rw[List.length_map,h.b rfl r hr]) (Sa E E')
   ·rw[if_neg (show ¬(false=true∨k=12) by simp[ff]),if_neg ff]
    have hc:=h.nb ew ff;exact Lt N M k E D E' D' (.aa false (an aG)) (.aa false (di C)) q (E.map (mQ 0 E')) _ E.length _ (an (yr E E' aG)) ff hL RR (by simp) (by rw[decide_eq_true_iff];exact Ol E E' _) hf hw hp hu
     fun _=>BZ aG (E.map (mQ 0 E')) E'.length (by rw[hc];exact hE.n) yn.n (by rw[List.length_map,hc]) (Sa E E')
end Go.Proofs.YtekefilngojelaaGreat
end
