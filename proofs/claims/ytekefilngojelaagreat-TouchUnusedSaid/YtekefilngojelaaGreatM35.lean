/-
  A part of the proof: TyB3t, TnQ3t, TyD3t, TyF03t.
-/
import Derived.Test.YtekefilngojelaaGreatM13
import Derived.Test.YtekefilngojelaaGreatM18
import Derived.Test.YtekefilngojelaaGreatM26
import Derived.Test.YtekefilngojelaaGreatM28
import Derived.Test.YtekefilngojelaaGreatM30
import Derived.Test.YtekefilngojelaaGreatM31
import Derived.Test.YtekefilngojelaaGreatM32
import Derived.Test.YtekefilngojelaaGreatM33
import Derived.Test.YtekefilngojelaaGreatM34
set_option maxHeartbeats 0
set_option maxRecDepth 100000
set_option linter.unusedVariables false
set_option linter.unusedSimpArgs false
set_option linter.unusedSectionVars false
section
namespace Go.Proofs.YtekefilngojelaaGreat
open Go Go.Abs Go.Abs.M Go.Proofs
structure BsO (m:Nat) (C:List (List (List T2))) (G:List (List T2)) (O:List R8):Prop where
 g:G.length<=3
 s:∀p∈G,SP p
 o:BG O
 c:rO C G.length m
structure RK (m:Nat) (C:List (List (List T2))) (G:List (List T2)) (O:List R8) (Q Sx:List (List (List T2))):Prop extends BsO m C G O where
 q:rO Q m G.length
 x:rO Sx (G.length*(G.length-1)/2) G.length
structure RsO (U U1:List Rat) (At:List (Rat×Rat)) (a:Int):Prop where
 a:FR a
 u:OU U
 u1:OU U1
 t:∀q∈At,Qs q.1 100/\Qs q.2 100/\q.1<=q.2
 l:At.length<=3
inductive EB (m:Nat):Int->List (List T2)->List (List (List T2))->ny->Prop
 | k1 (P:List T2) (bD:List (List T2)):SP P->bD.length=m->(∀p∈bD,SP p)->EB m 1 bD [] {nQ with P:=bo P}
 | k2 (P:List T2) (C:List (List (List T2))) (G:List (List T2)) (O:List R8) (Q Sx:List (List (List T2))):SP P->RK m C G O Q Sx->EB m 2 [] C {nQ with P:=bo P,G:=aQ G,eO:=iq O,Q:=df Q,Sx:=df Sx}
 | k3 (n:Int) (bD:List (List T2)):1<=n/\n<=4->bD.length=m->(∀p∈bD,SP p)->EB m 3 bD [] {nQ with eN:=n}
 | k4 (O1:List R8) (Lc:List (List T2)) (C:List (List (List T2))) (G:List (List T2)) (O:List R8) (Q Sx:List (List (List T2))):BG O1->(∀p∈Lc,SP p)->Lc.length<=3->RK m C G O Q Sx->EB m 4 [] C {nQ with O:=iq O1,Lc:=aQ Lc,G:=aQ G,eO:=iq O,Q:=df Q,Sx:=df Sx}
 | k5 (cn cd:Int) (C:List (List (List T2))) (G:List (List T2)) (O:List R8) (Q Sx:List (List (List T2))):0<=cn/\cn<=15->-1<=cd/\cd<=2->RK m C G O Q Sx->EB m 5 [] C {nQ with cn:=cn,cd:=cd,G:=aQ G,eO:=iq O,Q:=df Q,Sx:=df Sx}
 | k6 (cn cd cr:Int) (C:List (List (List T2))) (G:List (List T2)) (O:List R8) (Q Sx:List (List (List T2))):0<=cn/\cn<=7->0<=cr/\cr<=cd/\cd<=cn->RK m C G O Q Sx->EB m 6 [] C {nQ with cn:=cn,cd:=cd,cr:=cr,G:=aQ G,eO:=iq O,Q:=df Q,Sx:=df Sx}
 | k7 (Z:List Bx) (C:List (List (List T2))) (G:List (List T2)) (O:List R8) (Q Sx:List (List (List T2))) (U U1:List Rat) (At:List (Rat×Rat)) (a:Int):(∀x∈Z,x.fit)->Z.length<=3->RK m C G O Q Sx->RsO U U1 At a->EB m 7 [] C {nQ with B:=yR Z,G:=aQ G,eO:=iq O,Q:=df Q,Sx:=df Sx,r0:=1,r1:=a,r8:=ur U,TT:=ur U1,At:=Jd At}
 | k8 (P:List T2) (Z:List Bx) (Sg:List Int) (C:List (List (List T2))) (G:List (List T2)) (O:List R8) (Q Sx:List (List (List T2))) (U U1:List Rat) (At:List (Rat×Rat)) (a:Int):SP P->(∀x∈Z,x.fit)->Z.length<=3->(∀x∈Sg,-1<=x/\x<=1)->Sg.length=Z.length->RK m C G O Q Sx->RsO U U1 At a->EB m 8 [] C {nQ with P:=bo P,S:=Qq Sg,B:=yR Z,G:=aQ G,eO:=iq O,Q:=df Q,Sx:=df Sx,r0:=1,r1:=a,r8:=ur U,TT:=ur U1,At:=Jd At}
 | k9 (bD:List (List T2)) (Sq:List (Rat×List T2)):bD.length=m->(∀p∈bD,SP p)->(∀x∈Sq,Qs x.1 100/\SP x.2)->Sq.length<=3->EB m 9 bD [] {nQ with Sq:=Je Sq}
 | Oh (P:List T2) (bD:List (List T2)) (Sq:List (Rat×List T2)):SP P->bD.length=m->(∀p∈bD,SP p)->(∀x∈Sq,Qs x.1 100/\SP x.2)->Sq.length<=3->EB m 10 bD [] {nQ with P:=bo P,Sq:=Je Sq}
 | Oi (Lc:List (List T2)) (C:List (List (List T2))):(∀p∈Lc,SP p)->Lc.length<=3->rO C (1+Lc.length*(Lc.length+1)/2) m->EB m 11 [] C {nQ with Lc:=aQ Lc}
 | k12 (cn:Int) (C:List (List (List T2))) (G:List (List T2)) (O:List R8):0<=cn/\cn<=7->BsO m C G O->EB m 12 [] C {nQ with cn:=cn,G:=aQ G,eO:=iq O}
 | k13 (cn:Int) (Xs:List Q8) (Bs:List Bx):0<=cn/\cn<=7->(∀q∈Xs,q.fit)->Xs.length<=3->(∀q∈Bs,q.fit)->Bs.length<=3->EB m 13 [] [] {nQ with cn:=cn,X:=RA Xs,eB:=yR Bs}
theorem Ec (K:Int) (hK:0<=K) (l:List (List R5)) (hl:pP l) (v:List Int) (hv:nS v) :
  ∃(E D:List (List T2)) (k:Int) (bD:List (List T2)) (C:List (List (List T2))) (q:ny),KOK 2 E D/\(∀p∈E,SP p)/\(∀p∈D,SP p)/\E.length<=2/\D.length<=1/\EB E.length k bD C q /\
   aA Tryz.prog 9 [.val (.agg (bQ K l v))] ⟨[.val (.agg (fT 2 (.aa false (aQ E)) (.aa false (aQ D)) k (.aa false (aQ bD)) (.aa false (df C)) q))],[none]⟩:=by
 obtain⟨E,D,hk,hE,hD,lE,lD,cK⟩:=wO K l hl v hv;have hR:∃a b c,bQ K l v=[a,b,c]:=⟨_,_,_,rfl⟩;obtain⟨j,hj⟩:∃j,j=K.tmod 13:=⟨_,rfl⟩;have agi:0<=j/\j<13:=by rw[hj];exact⟨Int.tmod_nonneg _ hK,Int.tmod_lt_of_pos _ (by decide)⟩
 rcases(show j=0∨j=1∨j=2∨j=3∨j=4∨j=5∨j=6∨j=7∨j=8∨j=9∨j=10∨j=11∨j=12 by omega) with rfl|rfl|rfl|rfl|rfl|rfl|rfl|rfl|rfl|rfl|rfl|rfl|rfl
 ·obtain⟨P,hP,cC⟩:=IA K l hl v hv hj.symm
  obtain⟨gC,c1,c2,cE⟩:=IJ K l hl v hv 2 E lE (aQ D) (bo P) 0 0 0 [] [] [] [];exact⟨E,D,1,gC,[],_,hk,hE,hD,lE,lD,.k1 P gC hP c1 c2,Ij _ hR _ _ _ _ _ _ _ _ _ _ _ _ _ cK cC cE⟩
 ·obtain⟨P,hP,cC⟩:=IB K l hl v hv hj.symm
  obtain⟨G,O,C,Q,Sx,g1,g2,g3,g4,g5,g6,cE⟩:=IL K l hl v hv 2 E lE (aQ D) (bo P) 0 0 0 [] [] [] [];exact⟨E,D,2,[],C,_,hk,hE,hD,lE,lD,.k2 P C G O Q Sx hP ⟨⟨g1,g2,g3,g4⟩,g5,g6⟩,Ij _ hR _ _ _ _ _ _ _ _ _ _ _ _ _ cK cC cE⟩
 ·have cC:=IC K l hl v hv hj.symm
  obtain⟨gC,n,c1,c2,n1,cE⟩:=IK K l hl v hv 2 E lE (aQ D) [] 0 0 0 [] [] [] [];exact⟨E,D,3,gC,[],_,hk,hE,hD,lE,lD,.k3 n gC n1 c1 c2,Ij _ hR _ _ _ _ _ _ _ _ _ _ _ _ _ cK cC cE⟩
 ·obtain⟨O1,Lc,hO,hL,lL,cC⟩:=ID K l hl v hv hj.symm
  obtain⟨G,O,C,Q,Sx,g1,g2,g3,g4,g5,g6,cE⟩:=IM K l hl v hv 2 E lE (aQ D) [] 0 0 0 (iq O1) (aQ Lc) [] [];exact⟨E,D,4,[],C,_,hk,hE,hD,lE,lD,.k4 O1 Lc C G O Q Sx hO hL lL ⟨⟨g1,g2,g3,g4⟩,g5,g6⟩,Ij _ hR _ _ _ _ _ _ _ _ _ _ _ _ _ cK cC cE⟩
 ·obtain⟨cn,cd,h1,h2,cC⟩:=IE K l hl v hv hj.symm
  obtain⟨G,O,C,Q,Sx,g1,g2,g3,g4,g5,g6,cE⟩:=IN K l hl v hv 2 E lE (aQ D) [] cn cd 0 [] [] [] [];exact⟨E,D,5,[],C,_,hk,hE,hD,lE,lD,.k5 cn cd C G O Q Sx h1 h2 ⟨⟨g1,g2,g3,g4⟩,g5,g6⟩,Ij _ hR _ _ _ _ _ _ _ _ _ _ _ _ _ cK cC cE⟩
 ·obtain⟨cn,cd,cr,h1,h2,cC⟩:=IF K l hl v hv hj.symm
  obtain⟨G,O,C,Q,Sx,g1,g2,g3,g4,g5,g6,cE⟩:=IP K l hl v hv 2 E lE (aQ D) [] cn cd cr [] [] [] [];exact⟨E,D,6,[],C,_,hk,hE,hD,lE,lD,.k6 cn cd cr C G O Q Sx h1 h2 ⟨⟨g1,g2,g3,g4⟩,g5,g6⟩,Ij _ hR _ _ _ _ _ _ _ _ _ _ _ _ _ cK cC cE⟩
 ·obtain⟨Z,hZ,lZ,cC⟩:=IH K l hl v hv hj.symm
  obtain⟨G,O,C,Q,Sx,U,U1,At,a,g1,g2,g3,g4,g5,g6,a1,u1,u2,t1,t2,cE⟩:=IS K l hl v hv 2 E lE (aQ D) [] 0 0 0 [] [] [] (yR Z);exact⟨E,D,7,[],C,_,hk,hE,hD,lE,lD,.k7 Z C G O Q Sx U U1 At a hZ lZ ⟨⟨g1,g2,g3,g4⟩,g5,g6⟩ ⟨a1,u1,u2,t1,t2⟩,Ij _ hR _ _ _ _ _ _ _ _ _ _ _ _ _ cK cC cE⟩
 ·obtain⟨P,Z,Sg,hP,hZ,lZ,hg,lg,cC⟩:=II K l hl v hv hj.symm
  obtain⟨G,O,C,Q,Sx,U,U1,At,a,g1,g2,g3,g4,g5,g6,a1,u1,u2,t1,t2,cE⟩:=IT K l hl v hv 2 E lE (aQ D) (bo P) 0 0 0 [] [] (Qq Sg) (yR Z);exact⟨E,D,8,[],C,_,hk,hE,hD,lE,lD,.k8 P Z Sg C G O Q Sx U U1 At a hP hZ lZ hg lg ⟨⟨g1,g2,g3,g4⟩,g5,g6⟩ ⟨a1,u1,u2,t1,t2⟩,Ij _ hR _ _ _ _ _ _ _ _ _ _ _ _ _ cK cC cE⟩
 ·have cC:=IG K l hl v hv hj.symm
  obtain⟨gC,Sq,c1,c2,s1,s2,cE⟩:=IQ K l hl v hv 2 E lE (aQ D) [] 0 0 0 [] [] [] [];exact⟨E,D,9,gC,[],_,hk,hE,hD,lE,lD,.k9 gC Sq c1 c2 s1 s2,Ij _ hR _ _ _ _ _ _ _ _ _ _ _ _ _ cK cC cE⟩
 ·obtain⟨P,hP,cC⟩:=F8 K l hl v hv hj.symm
  obtain⟨gC,Sq,c1,c2,s1,s2,cE⟩:=Ge K l hl v hv 2 E lE (aQ D) (bo P) 0 0 0 [] [] [] [];exact⟨E,D,10,gC,[],_,hk,hE,hD,lE,lD,.Oh P gC Sq hP c1 c2 s1 s2,Ij _ hR _ _ _ _ _ _ _ _ _ _ _ _ _ cK cC cE⟩
 ·obtain⟨Lc,hL,lL,cC⟩:=F9 K l hl v hv hj.symm
  obtain⟨C,hC,cE⟩:=Gc K l hl v hv 2 E lE (aQ D) [] 0 0 0 [] [] [] Lc lL;exact⟨E,D,11,[],C,_,hk,hE,hD,lE,lD,.Oi Lc C hL lL hC,Ij _ hR _ _ _ _ _ _ _ _ _ _ _ _ _ cK cC cE⟩
 ·obtain⟨cn,h1,cC⟩:=Ga K l hl v hv hj.symm
  obtain⟨G,O,C,g1,g2,g3,g4,cE⟩:=Gd K l hl v hv 2 E lE (aQ D) [] cn 0 0 [] [] [] [];exact⟨E,D,12,[],C,_,hk,hE,hD,lE,lD,.k12 cn C G O h1 ⟨g1,g2,g3,g4⟩,Ij _ hR _ _ _ _ _ _ _ _ _ _ _ _ _ cK cC cE⟩
 ·obtain⟨cn,h1,cC⟩:=Gb K l hl v hv hj.symm
  obtain⟨Xs,Bs,x1,x2,b1,b2,cE⟩:=Gg K l hl v hv 2 E lE (aQ D) [] cn 0 0 [] [] [] [];exact⟨E,D,13,[],[],_,hk,hE,hD,lE,lD,.k13 cn Xs Bs h1 x1 x2 b1 b2,Ij _ hR _ _ _ _ _ _ _ _ _ _ _ _ _ cK cC cE⟩
open Go Go.Abs Go.Abs.M Go.Proofs
def Ad (N M:Int) (X X2 Y Y2 T:Abs.Rows) (bD:Tree) (q:ny) (av:Abs.Rows) (c:Nat) (ci:Int) (R:Abs.Rows) (J:Int):St:=aC 91 [.aj,.aj,.c (.ptr 2 0 0),.c (.ptr 3 0 0),.c (.ptr 4 0 0),vb false,.c (.ptr 7 0 0),.c (.t (.aa false av)),.aj,.aj,.aj,.aj,.aj,.aj,.aj,.aj,.aj,.aj,.aj,.aj,.aj,.aj,.aj,.aj,.aj,.aj,.aj,.aj,.aj,.aj,.aj,.aj,.aj,.aj,.aj,.aj,.aj,.aj,.aj,.aj,.aj,.aj,.aj,.aj,.aj,.aj,.aj,.aj,.aj,.aj,.aj,.aj,.aj,.aj,.aj,.aj,.aj,.aj,.aj,.aj,.aj,.aj,.aj,.aj,.aj,.aj,.aj,.aj,.aj,.aj,.aj,.c (.t (.aa false T)),vi .i64 ci,vi .i64 J] [none,none,fB N (.aa false X) (.aa false X2) 12 bD (.aa false T) q,Lb M (.aa false Y) (.aa false Y2),some (.var (GZ.map .t)),none,none,some (.var [.t (.v (.int .i64 M)),.t (.aa false Y),.t (.aa false Y2),.t (.v (.int .i64 12)),.t (.aa false q.P),.t (.v (.int .i64 q.cn)),.t (.v (.int .i64 q.cd)),.t (.v (.int .i64 q.cr)),.t (.aa false q.O),.t (.aa false q.Lc),.t (.aa false q.S),.t (.aa false q.B),.t (.v (.int .i64 q.eN)),.t bD,.t (.aa false q.G),.t (.aa false q.eO),.sl 8 0 c false,.t (.aa false q.Q),.t (.aa false q.Sx),.t (.v (.int .i64 q.r0)),.t (.v (.int .i64 q.r1)),.t (.v (.int .i64 q.r2)),.t (.v (.int .i64 q.r3)),.t (.v (.int .i64 q.r4)),.t (.v (.int .i64 q.r5)),.t (.v (.int .i64 q.r6)),.t (.v (.int .i64 q.r7)),.t (.aa false q.r8),.t (.aa false q.r9),.t (.aa false q.TT),.t (.aa false q.Zm),.t (.aa false q.Zn),.t (.aa false q.Zo),.t (.aa false q.Zp),.t (.aa false q.Zq),.t (.aa false q.Zr),.t (.aa false q.At),.t (.aa false q.Sq),.t (.aa false q.X),.t (.aa false q.eB)]),some (.rows 1 R true false)]
theorem LB (N M:Int) (E D E' D':List (List T2)) (bD:Tree) (C:List (List (List T2))) (q:ny) (av ix:List Int) (n:Nat) (b:Bool) (mv:List (List T2)->List (List T2)) (hC:C.length<=1000)
  (hL:ix.length<=1000) (Ok:∀x∈ix,0<=x/\x<n) (dW:av.length=n) (hb:b=true↔∀x∈ix,0<=av.getD x.toNat (-1))
  (hf:aA Tryz.prog 40 [.val (.agg (fT N (.aa false (aQ E)) (.aa false (aQ D)) 12 bD (.aa false (df C)) q)),.val (.agg (kT M E' D'))] ⟨[.val (tb true)],[none,none]⟩)
  (hw:aA Tryz.prog 25 [.val (.agg (cT 12 q))] ⟨[.val (tb false)],[none]⟩)
  (hp:aA Tryz.prog 41 [.val (tl (aQ E)),.val (tl (aQ E'))] ⟨[.val (tl (W .i64 av))],[none,none]⟩)
  (hu:aA Tryz.prog 12 [.val (.agg (fT N (.aa false (aQ E)) (.aa false (aQ D)) 12 bD (.aa false (df C)) q))] ⟨[.val (tl (W .i64 ix))],[none]⟩)
  (hm:b=true->∀r∈C,aA Tryz.prog 42 [.val (tl (aQ r)),.val (tl (W .i64 av)),.val (ti .i64 (E'.length:Int))] ⟨[.val (tl (aQ (mv r)))],[none,none,none]⟩) :
  aA Tryz.prog 14 [.val (.agg (fT N (.aa false (aQ E)) (.aa false (aQ D)) 12 bD (.aa false (df C)) q)),.val (.agg (kT M E' D'))] ⟨[.val (.agg (if b=true then fT M (.aa false (aQ E')) (.aa false (aQ D')) 12 bD (.aa false (df (C.map mv))) q else zF)),.val (tb b)],[none,none]⟩:=by
 have hz:=F0;obtain⟨Av,Qz⟩:∃Z,Z=W .i64 av:=⟨_,rfl⟩;obtain⟨Lr,Nl⟩:∃Z,Z=W .i64 ix:=⟨_,rfl⟩;obtain⟨l,hl⟩:∃l,l=ix.length:=⟨_,rfl⟩;obtain⟨m,Q0⟩:∃m:Int,m=(l:Int):=⟨_,rfl⟩;have Nn:Lr.length=l:=by rw[Nl,iZ,hl]
 have lY:(aQ E').length=E'.length:=lj _;obtain⟨el,Ol⟩:∃el:Int,el=(E'.length:Int):=⟨_,rfl⟩;rw[<-Qz]at hp hm;obtain⟨T,hT⟩:∃Z,Z=df C:=⟨_,rfl⟩;obtain⟨c,hc⟩:∃c,c=C.length:=⟨_,rfl⟩;have lT:T.length=c:=by rw[hT,nA,hc]
 obtain⟨ci,UM⟩:∃ci:Int,ci=(c:Int):=⟨_,rfl⟩;rw[<-hT]at hf hu ⊢;rw[<-Nl]at hu;rw[<-Ol]at hm;unfold kT cT at *;generalize aQ E=X at *;generalize aQ D=X2 at *;generalize aQ E'=Y at *;generalize aQ D'=Y2 at *;unfold fT at *;refine aV aD mixed [.val,.val] Tryz.func14 rfl rfl (by kernel_rfl) fun zD zE zG zH zI zJ zK zL zM zN zO zR zS zT zU zV zX zY zZ zg zh zj zu zy zz aK ah aI aH ak aq ae aE aB aG ao az aJ an aO au aP ai aM aN ay aw aL ar zW bc A L F hS hF=>?_
 have y:zX true=false:=by rw[hS.not];rfl
 have lN:zy (ae Lr)=m:=by rw[hS.aW,hS.len,Nn,Q0]
 have yN:zy (ae Y)=el:=by rw[hS.aW,hS.len,lY,Ol]
 have zk:zT 12 12=false:=by rw[hS.ne];rfl
 have tN:zy (ae T)=ci:=by rw[hS.aW,hS.len,lT,UM]
 cbv;refine⟨_,hS.call (hf),?_⟩;cbv;refine bF (y) ?_;refine⟨_,hS.call (hw),?_⟩;cbv;refine bF (rfl) ?_;refine⟨_,hS.call (hp),?_⟩;cbv;refine⟨_,hS.call (hu),?_⟩;cbv;simp only[lN];refine nN aD mixed hS (n:=l) (fun j (d:Unit)=>ud N M 12 X X2 Y Y2 bD (.aa false T) q Av Lr m (Int.ofNat j)) (fun j d=>∀x∈ix.take j,0<=av.getD x.toNat (-1)) (a0:=()) (iY ?_ ?_) rfl (Nat.le_add_left 2 6) (by simp) ?_ ?_
 ·simp[eC,ud,aC,vi,vb]
 ·simp[eF,ud,fB,fT,Lb,GZ,aC]
 ·intro j d hj hd
  have l1:zU (Int.ofNat j) m=true:=by rw[<-lN];exact(hS.xt Nn hj (by omega)).1
  have i1:zD .i64 (zE (j:Int) 1)=(j:Int)+1:=(hS.xt Nn hj (by omega)).2.1;have j1:zj (Int.ofNat j)=j:=by rw[hS.nat];rfl
  have n0:zV 0 (Int.ofNat j)=true:=by rw[hS.le];exact decide_eq_true (show(0:Int)<=(j:Int) by omega)
  have Iu:j<ix.length:=by omega
  obtain⟨x,hx⟩:∃x:Nat,(x:Int)=ix[j]:=⟨ix[j].toNat,by have:=(Ok _ (List.getElem_mem Iu)).1;omega⟩;have hxn:x<n:=Int.ofNat_lt.1 (by rw[hx];exact(Ok _ (List.getElem_mem Iu)).2);have il:ix.take (j+1)=ix.take j ++ [(x:Int)]:=by rw[List.take_add_one,List.getElem?_eq_getElem Iu,hx];rfl
  have g1:aG .i64 Lr j=true:=by rw[hS.gJ,Nl,lS];exact decide_eq_true Iu
  have g2:ao Lr j=Int.ofNat x:=by rw[hS.dL,Nl,ph,List.getD_eq_getElem?_getD,List.getElem?_eq_getElem Iu];exact hx.symm
  obtain⟨a,ha⟩:∃a,a=av.getD x (-1):=⟨_,rfl⟩;have g3:aG .i64 Av x=true:=by rw[hS.gJ,Qz,lS];exact decide_eq_true (by omega)
  have g4:ao Av x=a:=by rw[hS.dL,Qz,ph,ha,List.getD_eq_getElem?_getD,List.getD_eq_getElem?_getD,List.getElem?_eq_getElem (show x<av.length by omega)];rfl
  have j3:zj (Int.ofNat x)=x:=by rw[hS.nat];rfl
  have n3:zV 0 (Int.ofNat x)=true:=by rw[hS.le];exact decide_eq_true (show(0:Int)<=(x:Int) by omega)
  by_cases h0:a<0
  ·have z0:zU a 0=true:=by rw[hS.lt];exact decide_eq_true h0
   have ZH:b=false:=by
    cases bK:b with
    | false=>rfl
    | true=>
     have:=hb.1 bK (x:Int) (by rw[hx];exact List.getElem_mem Iu);rw[Int.toNat_natCast,<-ha]at this;omega
   rw[ZH]at hF;clear hx il ha;cbv;refine bT l1 ?_;simp only[j1,g2,j3,g4];refine nd n0 (nd g1 (nd n3 (nd g3 (bT z0 ?_))));exact Dl hF hz (iI.refl _)
  ·have z0:zU a 0=false:=by rw[hS.lt];exact decide_eq_false h0
   have hR:∀x∈ix.take (j+1),0<=av.getD x.toNat (-1):=by
    rw[il];intro z hz;rcases List.mem_append.1 hz with hz|hz
    ·exact hd z hz
    ·rw[List.mem_singleton.1 hz,Int.toNat_natCast,<-ha];omega
   clear hx il ha;cbv;refine bT l1 ?_;simp only[j1,g2,j3,g4];refine nd n0 (nd g1 (nd n3 (nd g3 (bF z0 ?_))));refine bR [(2,2),(3,3),(4,4),(7,7)] () ?_ ?_ ?_ ?_ rfl (Nat.le_add_left 2 6) hR
   ·simp[bV,ud,aC,vi,vb,AV.aX,AV.bA,Cell.aX,aT,i1]
   ·simp[bW,ud,fB,fT,Lb,GZ,aC,Abs.look,aT,aU.aX,Cell.aX]
   ·simp[bf,ud,fB,fT,Lb,GZ,aC,aT]
   ·simp
 ·intro d hd
  rw[List.take_of_length_le (by omega)]at hd;have T9:b=true:=hb.2 hd;have lE:zU (Int.ofNat l) m=false:=by rw[<-lN];exact hS.qQ Nn
  have hm:=hm T9;rw[T9]at hF;rw[if_pos rfl]at hF;have UM:ci=(c:Int):=UM;have k1:aq ci ci 24=true:=by rw[hS.my,UM];exact decide_eq_true ⟨by omega,by omega,by unfold aF;omega⟩
  have k2:zj ci=c:=by rw[hS.nat,UM];rfl
  obtain⟨R0,Gq⟩:∃Z:Abs.Rows,Z=List.replicate c [.aa true []]:=⟨_,rfl⟩;have k3:aP c [.aa true []]=R0:=by rw[hS.rep,Gq]
  cbv;refine bF lE (bF zk ?_);simp only[tN,k2,k3];refine nd k1 ?_;have uO:∀ {j:Nat} (hj:j<c),∃r∈C,T[j]?=some [.aa false (aQ r)]/\C.take (j+1)=C.take j ++ [r]:=fun {j} hj=>by
   obtain⟨r,h1,_,h2,h3⟩:=K1 (l:=C) (i:=j) (by omega);exact⟨r,h1,by rw[hT];exact h2,h3⟩
  refine nN aD mixed hS (n:=c) (fun j (R:Abs.Rows)=>Ad N M X X2 Y Y2 T bD q Av c ci R (Int.ofNat j)) (fun j R=>R=df ((C.take j).map mv)++List.replicate (c-j) [.aa true []]) (a0:=R0) (iY ?_ ?_) rfl (by show 2<=9;omega) (by rw[Gq];rfl) ?_ ?_
  ·simp[eC,Ad,aC,vi,vb]
  ·simp[eF,Ad,fB,fT,Lb,GZ,aC]
  ·intro j R hj hR
   have l1:zU (Int.ofNat j) ci=true:=by rw[<-tN];exact(hS.xt lT hj (by omega)).1
   have i1:zD .i64 (zE (j:Int) 1)=(j:Int)+1:=(hS.xt lT hj (by omega)).2.1;have j1:zj (Int.ofNat j)=j:=by rw[hS.nat];rfl
   have n0:zV 0 (Int.ofNat j)=true:=by rw[hS.le];exact decide_eq_true (show(0:Int)<=(j:Int) by omega)
   obtain⟨r,hr,hTj,il⟩:=uO hj;have cm:=hm r hr;have j2:aE T j=some [.aa false (aQ r)]:=by rw[hS.nth];exact hTj
   have n1:zu (Int.ofNat j) c=true:=by rw[hS.xo];exact decide_eq_true (show(0:Int)<=(j:Int)/\(j:Int)<(c:Int) by omega)
   have n2:zz 0 (Int.ofNat j)=j:=by rw[hS.idx];simp
   have lR1:(df ((C.take j).map mv)).length=j:=by rw[nA,List.length_map,List.length_take];omega
   have z3:aE R j=some [.aa true []]:=by
    rw[hS.nth,hR,List.getElem?_append_right (by omega),lR1,Nat.sub_self,List.getElem?_replicate,if_pos (by omega)]
   have rL:R.set j [.aa false (aQ (mv r))]=df ((C.take (j+1)).map mv)++List.replicate (c-(j+1)) [.aa true []]:=by
    rw[il,hR,List.set_append_right _ _ (by omega),lR1,Nat.sub_self,show c-j=c-(j+1)+1 by omega,List.replicate_succ,List.set_cons_zero,List.map_append];simp[df]
   obtain⟨Z,hZ⟩:∃Z,Z=aQ r:=⟨_,rfl⟩;obtain⟨Z2,VW⟩:∃Z,Z=aQ (mv r):=⟨_,rfl⟩;rw[<-hZ]at cm j2;rw[<-VW]at cm rL;have z4:aB R j (bG [.aa true []] 0 [.aa false Z2])=R.set j [.aa false Z2]:=by rw[hS.Dc];rfl
   clear hTj hR il hr uO hZ VW;cbv;refine bT l1 ?_;rw[j1,j2];cbv;refine nd n0 ?_;simp only[yN];refine⟨_,hS.call (cm),?_⟩;cbv;refine nd n1 ?_;simp only[n2,z3];cbv;refine bR [(2,2),(3,3),(4,4),(7,7),(8,8)] (R.set j [.aa false Z2]) ?_ ?_ ?_ ?_ rfl (by show 2<=9;omega) rL
   ·simp[bV,Ad,aC,vi,vb,AV.aX,AV.bA,Cell.aX,aT,i1]
   ·simp[bW,Ad,fB,fT,Lb,GZ,aC,Abs.look,aT,aU.aX,Cell.aX,z4]
   ·simp[bf,Ad,fB,fT,Lb,GZ,aC,aT]
   ·simp
  ·intro R hR
   have TP:zU (Int.ofNat c) ci=false:=by rw[<-tN];exact hS.qQ lT
   rw[Nat.sub_self,List.replicate_zero,List.append_nil,List.take_of_length_le (by omega)]at hR;have UU:=hS.whole (r:=R) (len:=c) (by rw[hR,nA,List.length_map,hc]);have f1:=UU.1;have f2:=UU.2;clear UU;rw[<-hR]at hF;cbv;refine bF TP (nd f1 ?_);rw[f2];exact hF _ (aS.refl _)
theorem oC (N M k N1 k1:Int) (E D:Tree) (E1 D1:Abs.Rows) (E' D':List (List T2)) (bD C:Tree) (aal C1:Abs.Rows) (q q1:ny) (b:Bool)
  (hc:aA Tryz.prog 14 [.val (.agg (fT N E D k bD C q)),.val (.agg (kT M E' D'))] ⟨[.val (.agg (fT N1 (.aa false E1) (.aa false D1) k1 (.aa false aal) (.aa false C1) q1)),.val (tb b)],[none,none]⟩) :
  aA Tryz.prog 17 [.val (.agg (fT N E D k bD C q)),.val (.agg (kT M E' D'))] ⟨[.val (tb (!b))],[none,none]⟩:=by
 unfold kT at *;generalize aQ E'=Y at *;generalize aQ D'=Y2 at *;unfold fT at *;refine aV aD mixed [.val] Tryz.func17 rfl rfl (by kernel_rfl) fun zD zE zG zH zI zJ zK zL zM zN zO zR zS zT zU zV zX zY zZ zg zh zj zu zy zz aK ah aI aH ak aq ae aE aB aG ao az aJ an aO au aP ai aM aN ay aw aL ar zW bc A L F hS hF=>?_
 have y:zX b=!b:=hS.not b;cbv;refine⟨_,hS.call (hc),?_⟩;cbv;exact bX hF (tJ y)
open Go Go.Abs Go.Abs.M Go.Proofs
theorem SP.kp {p:List T2} (h:SP p):KP p:=⟨h.int,by have:=h.len;omega⟩
theorem UN {l:List (List T2)} (h:∀p∈l,SP p) (hn:l.length<=1000):LP l:=⟨fun p hp=>(h p hp).kp,hn⟩
def OG (k:Int) (bD:List (List T2)) (C:List (List (List T2))) (i:Nat):Bool:=EA k||K2 k bD C i
structure UF (m:Nat) (k:Int) (bD:List (List T2)) (C:List (List (List T2))):Prop where
 kk:1<=k/\k<=13
 nb:EA k=false->k≠12->bD.length=m
 b:k=12->∀r∈C,r.length=m
 lc:C.length<=1000
theorem G9 (N:Int) (E:List (List T2)) (D:Tree) (k:Int) (bD:List (List T2)) (C:List (List (List T2))) (q:ny) (hE:E.length<=1000) (h:UF E.length k bD C) :
  aA Tryz.prog 12 [.val (.agg (fT N (.aa false (aQ E)) D k (.aa false (aQ bD)) (.aa false (df C)) q))] ⟨[.val (tl (W .i64 (eI (OG k bD C) E.length)))],[none]⟩:=by
 refine FZ N E D k _ _ q (EA k) (K2 k bD C) hE (kP k h.kk q) fun hw i hi=>?_
 unfold K2
 by_cases ug:k=12
 ·subst ug;rw[if_pos rfl];exact Qx N _ D _ C E.length (by omega) h.lc (h.b rfl) q i hi
 ·rw[if_neg ug];exact Nf N _ D _ k ug bD (by have:=h.nb hw ug;omega) q i (by rw[h.nb hw ug];exact hi)
def V7 (E E' l:List (List T2)):List (List T2):=ZE l (E.map (sT 0 E')) E'.length
def IU (N:Int) (E D:List (List T2)) (k:Int) (bD:List (List T2)) (C:List (List (List T2))) (M:Int) (E' D':List (List T2)):Bool:=
 wJ N E D k M E' D'&&(EA k||decide (∀i,i<E.length->K2 k bD C i=true->E.getD i []∈E'))
theorem Ha {to:List (List T2)} {p:List T2}:∀ {k:Nat},0<=sT k to p↔p∈to:=by
 induction to with
 | nil=>intro k;simp[sT]
 | cons x l ih=>
  intro k;unfold sT;split
  ·rename_i e;subst e;simp
  ·rename_i e;rw[ih];simp[Ne.symm e]
theorem w9 {v:Nat->Bool} {n:Nat} {x:Int}:x∈eI v n↔∃i,i<n/\v i=true/\x=(i:Int):=by
 unfold eI;simp only[List.mem_map,List.mem_filter,List.mem_range];exact⟨fun⟨i,⟨h1,h2⟩,h3⟩=>⟨i,h1,h2,h3.symm⟩,fun⟨i,h1,h2,h3⟩=>⟨i,⟨h1,h2⟩,h3.symm⟩⟩
theorem OH (E E':List (List T2)) {i:Nat} (hi:i<E.length):(E.map (sT 0 E')).getD i (-1)=sT 0 E' (E.getD i []):=by
 rw[List.getD_eq_getElem?_getD,List.getD_eq_getElem?_getD,List.getElem?_map,List.getElem?_eq_getElem hi];rfl
theorem OI (E E':List (List T2)):∀a∈E.map (sT 0 E'),a<(E'.length:Int):=by
 intro a ha;obtain⟨p,_,rfl⟩:=List.mem_map.1 ha;rcases K7 (to:=E') (k:=0) (p:=p) with h|⟨j,_,h2,h3⟩
 ·omega
 ·omega
theorem LC (E E':List (List T2)) (v:Nat->Bool):(∀i,i<E.length->v i=true->E.getD i []∈E')↔∀x∈eI v E.length,0<=(E.map (sT 0 E')).getD x.toNat (-1):=by
 constructor
 ·intro h x hx
  obtain⟨i,h1,h2,rfl⟩:=w9.1 hx;rw[Int.toNat_natCast,OH E E' h1];exact Ha.2 (h i h1 h2)
 ·intro h i h1 h2
  have:=h (i:Int) (w9.2 ⟨i,h1,h2,rfl⟩);rw[Int.toNat_natCast,OH E E' h1]at this;exact Ha.1 this
def UO (E E':List (List T2)) (k:Int) (bD:List (List T2)):List (List T2):=if EA k=true∨k=12 then bD else V7 E E' bD
def CFF (E E':List (List T2)) (k:Int) (C:List (List (List T2))):List (List (List T2)):=if k=12 then C.map (V7 E E') else C
theorem kc {l:List (List T2)} (h:lM l):l.Nodup:=h.nodup
theorem LD (N:Int) (E D:List (List T2)) (k:Int) (bD:List (List T2)) (C:List (List (List T2))) (q:ny) (M:Int) (E' D':List (List T2)) (hE:LP E) (hD:LP D) (um:LP E') (Mb:LP D') (hn:E'.Nodup) (h:UF E.length k bD C) :
  aA Tryz.prog 14 [.val (.agg (fT N (.aa false (aQ E)) (.aa false (aQ D)) k (.aa false (aQ bD)) (.aa false (df C)) q)),.val (.agg (kT M E' D'))]
   ⟨[.val (.agg (if IU N E D k bD C M E' D'=true then fT M (.aa false (aQ E')) (.aa false (aQ D')) k (.aa false (aQ (UO E E' k bD))) (.aa false (df (CFF E E' k C))) q else zF)),.val (tb (IU N E D k bD C M E' D'))],[none,none]⟩:=by
 have hf:=Iq N M k E D E' D' hE hD um Mb h.kk (.aa false (aQ bD)) (.aa false (df C)) q;have hw:=kP k h.kk q;have hu:=G9 N E (.aa false (aQ D)) k bD C q hE.n h;have hp:=DX E E' hE.k um.k hn hE.n um.n;unfold IU UO CFF;cases ef:wJ N E D k M E' D' with
 | false=>
  rw[ef]at hf;rw[Bool.false_and,if_neg (by decide)];exact Ir N M k E D E' D' _ _ q hf
 | true=>
  rw[ef]at hf;cases ew:EA k with
  | true=>
   rw[ew]at hw;have ug:k≠12:=by rintro rfl;exact absurd ew (by decide)
   rw[Bool.true_and,Bool.true_or,if_pos rfl,if_pos (Or.inl rfl),if_neg ug];exact Is N M k E D E' D' _ _ q hf hw
  | false=>
   rw[ew]at hw;have eu:OG k bD C=K2 k bD C:=by funext i;unfold OG;rw[ew,Bool.false_or]
   rw[eu]at hu;rw[Bool.true_and,Bool.false_or];have Ok:∀x∈eI (K2 k bD C) E.length,0<=x/\x<(E.length:Nat):=by
    intro x hx;obtain⟨i,h1,_,rfl⟩:=w9.1 hx;omega
   have hL:(eI (K2 k bD C) E.length).length<=1000:=Nat.le_trans (D5 _ _) hE.n
   by_cases ug:k=12
   ·subst ug
    rw[if_pos (Or.inr rfl),if_pos rfl];exact LB N M E D E' D' (.aa false (aQ bD)) C q (E.map (sT 0 E')) _ E.length _ (V7 E E') h.lc hL Ok (by simp) (by rw[decide_eq_true_iff];exact LC E E' _) hf hw hp hu
     fun _ r hr=>yV r (E.map (sT 0 E')) E'.length (by rw[h.b rfl r hr];exact hE.n) um.n (by rw[List.length_map,h.b rfl r hr]) (OI E E')
   ·rw[if_neg (show ¬(false=true∨k=12) by simp[ug]),if_neg ug]
    have hc:=h.nb ew ug;exact It N M k E D E' D' (.aa false (aQ bD)) (.aa false (df C)) q (E.map (sT 0 E')) _ E.length _ (aQ (V7 E E' bD)) ug hL Ok (by simp) (by rw[decide_eq_true_iff];exact LC E E' _) hf hw hp hu
     fun _=>yV bD (E.map (sT 0 E')) E'.length (by rw[hc];exact hE.n) um.n (by rw[List.length_map,hc]) (OI E E')
theorem kW (N:Int) (E D:List (List T2)) (k:Int) (bD:List (List T2)) (C:List (List (List T2))) (q:ny) (M:Int) (E' D':List (List T2)) (hE:LP E) (hD:LP D) (um:LP E') (Mb:LP D') (hn:E'.Nodup) (h:UF E.length k bD C) :
  aA Tryz.prog 17 [.val (.agg (fT N (.aa false (aQ E)) (.aa false (aQ D)) k (.aa false (aQ bD)) (.aa false (df C)) q)),.val (.agg (kT M E' D'))] ⟨[.val (tb (!IU N E D k bD C M E' D'))],[none,none]⟩:=by
 have hc:=LD N E D k bD C q M E' D' hE hD um Mb hn h;cases hh:IU N E D k bD C M E' D' with
 | true=>
  rw[hh,if_pos rfl]at hc;exact oC N M k M k _ _ _ _ E' D' _ _ _ _ q q true hc
 | false=>
  rw[hh,if_neg (by decide)]at hc;exact oC N M k 0 0 _ _ _ _ E' D' _ _ _ _ q nQ false hc
theorem Hb {plain:Bool} {E:List (List T2)} {p:List T2} (hs:lM E) (he:∀p∈E,p≠[]/\Nm p/\(plain=true->ia p≠0)) :
  (∀x∈E,x∈dY plain (E ++ [p]))/\(dY plain (E ++ [p])=E∨dY plain (E ++ [p])≠E/\E.length<(dY plain (E ++ [p])).length):=by
 rw[DU,Nb hs he];unfold rj;split
 ·exact⟨fun x hx=>hx,Or.inl rfl⟩
 ·by_cases hm:jm p∈E
  ·rw[DR hs hm];exact⟨fun x hx=>hx,Or.inl rfl⟩
  ·have:=DS hm
   exact⟨fun x hx=>ri.2 (Or.inr hx),Or.inr ⟨fun e=>by rw[e]at this;omega,by omega⟩⟩
theorem uM (E D:List (List T2)) (k:Int) (E' D':List (List T2)):wJ 2 E D k 2 E' D'=if EA k=true then decide (E'=E) else if k=3 then decide (D'=D) else true:=by
 unfold wJ;split
 ·simp
 ·split
  ·rename_i h;subst h;simp
  ·split<;>simp
theorem NB {E D:List (List T2)} {k:Int} {bD:List (List T2)} {C:List (List (List T2))} {p:List T2} (hs:lM E) (he:∀p∈E,p≠[]/\Nm p) :
  IU 2 E D k bD C 2 (dY false (E ++ [p])) D=!(EA k&&decide (E.length<(dY false (E ++ [p])).length)):=by
 obtain⟨h1,h2⟩:=Hb (plain:=false) (p:=p) hs fun p hp=>⟨(he p hp).1,(he p hp).2,fun h=>absurd h (by decide)⟩
 generalize dY false (E ++ [p])=Y at *;unfold IU;rw[uM];cases hw:EA k with
 | true=>
  rw[if_pos rfl,Bool.true_or,Bool.and_true,Bool.true_and];rcases h2 with h2|⟨h2,h3⟩
  ·rw[h2];simp
  ·rw[decide_eq_false h2,decide_eq_true h3];rfl
 | false=>
  rw[if_neg (by decide),Bool.false_or,Bool.false_and];have hd:decide (∀i,i<E.length->K2 k bD C i=true->E.getD i []∈Y)=true:=decide_eq_true fun i hi _=>h1 _ (by rw[List.getD_eq_getElem?_getD,List.getElem?_eq_getElem hi];exact List.getElem_mem hi)
  rw[hd];simp
theorem QV {E D:List (List T2)} {k:Int} {bD:List (List T2)} {C:List (List (List T2))} {p:List T2} (hs:lM D) (he:∀p∈D,p≠[]/\Nm p/\ia p≠0) :
  IU 2 E D k bD C 2 E (dY true (D ++ [p]))=!(decide (k=3)&&decide (D.length<(dY true (D ++ [p])).length)):=by
 obtain⟨h1,h2⟩:=Hb (plain:=true) (p:=p) hs fun p hp=>⟨(he p hp).1,(he p hp).2.1,fun h=>(he p hp).2.2⟩
 generalize dY true (D ++ [p])=Y at *;unfold IU;rw[uM];have hd:decide (∀i,i<E.length->K2 k bD C i=true->E.getD i []∈E)=true:=decide_eq_true fun i hi _=>by rw[List.getD_eq_getElem?_getD,List.getElem?_eq_getElem hi];exact List.getElem_mem hi
 rw[hd,Bool.or_true,Bool.and_true]
 by_cases h3:k=3
 ·subst h3
  rw[if_neg (by decide),if_pos rfl];rcases h2 with h2|⟨h2,h3⟩
  ·rw[h2];simp
  ·rw[decide_eq_false h2,decide_eq_true h3];rfl
 ·rw[decide_eq_false h3]
  split
  ·simp
  ·rfl
theorem NC {E D:List (List T2)} {k:Int} {bD:List (List T2)} {C:List (List (List T2))}:IU 2 E D k bD C 2 E D=true:=by
 unfold IU;rw[uM];have hd:decide (∀i,i<E.length->K2 k bD C i=true->E.getD i []∈E)=true:=decide_eq_true fun i hi _=>by rw[List.getD_eq_getElem?_getD,List.getElem?_eq_getElem hi];exact List.getElem_mem hi
 rw[hd];simp
theorem Ed {E:List (List T2)} (hs:lM E) {i j:Nat} (hi:i<E.length) (hj:j<E.length):E.getD j []∈E.take i++E.drop (i+1)↔j≠i:=by
 have hn:=kc hs;have ei:∀ {k},(hk:k<E.length)->E.getD k []=E[k]:=fun hk=>by rw[List.getD_eq_getElem?_getD,List.getElem?_eq_getElem hk];rfl
 rw[ei hj];constructor
 ·rintro h rfl
  have e:E=E.take j++E[j]::E.drop (j+1):=by rw[<-List.drop_eq_getElem_cons hj,List.take_append_drop]
  have tH:(E.take j++E[j]::E.drop (j+1)).Nodup:=by rw[<-e];exact hn
  rw[List.nodup_append]at tH;obtain⟨_,h2,h3⟩:=tH;rcases List.mem_append.1 h with h|h
  ·exact h3 _ h _ List.mem_cons_self rfl
  ·exact(List.nodup_cons.1 h2).1 h
 ·intro h
  rcases Nat.lt_or_gt_of_ne h with h|h
  ·exact List.mem_append.2 (Or.inl (List.mem_take_iff_getElem.2 ⟨j,by omega,rfl⟩))
  ·refine List.mem_append.2 (Or.inr (List.mem_drop_iff_getElem.2 ⟨j-(i+1),by omega,?_⟩))
   congr 1;omega
theorem ND {E D:List (List T2)} {k:Int} {bD:List (List T2)} {C:List (List (List T2))} (hs:lM E) {i:Nat} (hi:i<E.length) :
  IU 2 E D k bD C 2 (E.take i++E.drop (i+1)) D=!(OG k bD C i):=by
 unfold IU OG;rw[uM];cases hw:EA k with
 | true=>
  rw[if_pos rfl,Bool.true_or,Bool.true_or,Bool.and_true,Bool.not_true];refine decide_eq_false fun e=>?_
  have:=congrArg List.length e;simp at this;omega
 | false=>
  rw[if_neg (by decide),Bool.false_or,Bool.false_or];have e1:(if k=3 then decide (D=D) else true)=true:=by split<;>simp
  rw[e1,Bool.true_and];cases hu:K2 k bD C i with
  | true=>
   exact decide_eq_false fun h=>(Ed hs hi hi).1 (h i hi hu) rfl
  | false=>
   exact decide_eq_true fun j hj hj2=>(Ed hs hi hj).2 fun e=>by subst e;rw[hu]at hj2;cases hj2
open Go Go.Abs Go.Abs.M Go.Proofs
theorem s8:∀b,xD b b=false:=by decide
theorem iQ:∀b,sV b b=true:=by decide
structure V8 (x1 x2 x3 y1:Tree) (mask:Int) (E D:List (List T2)) (k:Int) (bD C ir C':Tree) (q:ny) (p:List T2) (w:Bool) (u:Nat->Bool) (YE YD:List (List T2)):Prop where
 c0:aA Tryz.prog 7 [] ⟨[.val (tb true)],[]⟩
 cM:aA Tryz.prog 9 [.val (.agg [x1,x2,x3])] ⟨[.val (.agg (fT 2 (.aa false (aQ E)) (.aa false (aQ D)) k bD C q))],[none]⟩
 cH:aA Tryz.prog 8 [.val (.agg (fT 2 (.aa false (aQ E)) (.aa false (aQ D)) k bD C q)),.val (ti .u8 mask)] ⟨[.val (.agg (fT 2 (.aa false (aQ E)) (.aa false (aQ D)) k ir C' q))],[none,none]⟩
 cW:aA Tryz.prog 25 [.val (.agg (cT k q))] ⟨[.val (tb w)],[none]⟩
 cP:aA Tryz.prog 11 [.val (.agg [y1]),.val (ti .i64 2),.val (ti .i64 2),.val (ti .i64 3)] ⟨[.val (tl (bo p))],[none,none,none,none]⟩
 cU:aA Tryz.prog 12 [.val (.agg (fT 2 (.aa false (aQ E)) (.aa false (aQ D)) k ir C' q))] ⟨[.val (tl (W .i64 (eI u E.length)))],[none]⟩
 s1:aA Tryz.prog 26 [.val (tl (aQ (E ++ [p]))),.val (tb false)] ⟨[.val (tl (aQ YE))],[none,none]⟩
 t1:aA Tryz.prog 17 [.val (.agg (fT 2 (.aa false (aQ E)) (.aa false (aQ D)) k ir C' q)),.val (.agg (kT 2 YE D))] ⟨[.val (tb (w&&Nat.blt E.length (aQ YE).length))],[none,none]⟩
 tL:∀i,i<E.length->aA Tryz.prog 17 [.val (.agg (fT 2 (.aa false (aQ E)) (.aa false (aQ D)) k ir C' q)),.val (.agg (kT 2 (E.take i++E.drop (i+1)) D))] ⟨[.val (tb (u i))],[none,none]⟩
 s2:aA Tryz.prog 26 [.val (tl (aQ (D ++ [p]))),.val (tb true)] ⟨[.val (tl (aQ YD))],[none,none]⟩
 t2:aA Tryz.prog 17 [.val (.agg (fT 2 (.aa false (aQ E)) (.aa false (aQ D)) k ir C' q)),.val (.agg (kT 2 E YD))] ⟨[.val (tb (decide (k=3)&&Nat.blt D.length (aQ YD).length))],[none,none]⟩
 t3:aA Tryz.prog 17 [.val (.agg (fT 2 (.aa false (aQ E)) (.aa false (aQ D)) k ir C' q)),.val (.agg (kT 2 E D))] ⟨[.val (tb false)],[none,none]⟩
end Go.Proofs.YtekefilngojelaaGreat
end
