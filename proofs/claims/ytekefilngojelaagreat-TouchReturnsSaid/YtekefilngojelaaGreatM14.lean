/- A part of the proof. -/
import Derived.Test.YtekefilngojelaaGreatM13
set_option maxHeartbeats 0
set_option maxRecDepth 100000
set_option linter.unusedVariables false
set_option linter.unusedSimpArgs false
section
namespace Go.Proofs.YtekefilngojelaaGreat
open Go Go.Abs Go.Abs.M Go.Proofs
def qI (N a0 a1 a2 a3 a4 a5 a6 a7:Int) (Y0 Y1 Y2 Y3 Y4 Y5 V0 V1 V2 V3 V4 V5 V6 V7 V8 W0 W1 W2 W3:Abs.Rows):Option aC:=some (.var [.t (.v (.int .i64 N)),.t (.aa false Y0),.t (.aa false Y1),.t (.aa false Y2),.t (.aa false Y3),.t (.aa false Y4),.t (.aa false Y5),.t (.v (.int .i64 a0)),.t (.v (.int .i64 a1)),.t (.v (.int .i64 a2)),.t (.v (.int .i64 a3)),.t (.v (.int .i64 a4)),.t (.v (.int .i64 a5)),.t (.v (.int .i64 a6)),.t (.v (.int .i64 a7)),.t (.aa false V0),.t (.aa false V1),.t (.aa false V2),.t (.aa false V3),.t (.aa false V4),.t (.aa false V5),.t (.aa false V6),.t (.aa false V7),.t (.aa false V8),.t (.aa false W0),.t (.aa false W1),.t (.aa false W2),.t (.aa false W3)])
def BK (N a0 a1 a2 a3 a4 a5 a6 a7:Int) (Y0 Y1 Y2 Y3 Y4 Y5 V0 V1 V2 V3 V4 V5 V6 V7 V8 W0 W1 W2 W3:Abs.Rows) (len:Nat) (B:Abs.Rows) (I:Int):St:=ae 147 [.c (.sl 51 0 len false),.af,.af,.c (.ptr 2 0 0),.af,.af,.af,vi .i64 I] [none,none,qI N a0 a1 a2 a3 a4 a5 a6 a7 Y0 Y1 Y2 Y3 Y4 Y5 V0 V1 V2 V3 V4 V5 V6 V7 V8 W0 W1 W2 W3,none,none,none,none,none,none,none,none,none,none,none,none,none,none,none,none,none,none,none,none,none,none,none,none,none,none,none,none,none,none,none,none,none,none,none,none,none,none,none,none,none,none,none,none,none,none,none,none,some (.rows 1 B true false)]
def BM (N a0 a1 a2 a3 a4 a5 a6 a7:Int) (Y0 Y1 Y2 Y3 Y4 Y5 V0 V1 V2 V3 V4 V5 V6 V7 V8 W0 W1 W2 W3:Abs.Rows) (len:Nat) (B:Abs.Rows) (I:Int):St:=ae 147 [.c (.sl 52 0 len false),.af,.af,.c (.ptr 2 0 0),.af,.af,.af,.af,vi .i64 I] [none,none,qI N a0 a1 a2 a3 a4 a5 a6 a7 Y0 Y1 Y2 Y3 Y4 Y5 V0 V1 V2 V3 V4 V5 V6 V7 V8 W0 W1 W2 W3,none,none,none,none,none,none,none,none,none,none,none,none,none,none,none,none,none,none,none,none,none,none,none,none,none,none,none,none,none,none,none,none,none,none,none,none,none,none,none,none,none,none,none,none,none,none,none,none,none,some (.rows 1 B true false)]
def BN (N a0 a1 a2 a3 a4 a5 a6 a7:Int) (Y0 Y1 Y2 Y3 Y4 Y5 V0 V1 V2 V3 V4 V5 V6 V7 V8 W0 W1 W2 W3:Abs.Rows) (len:Nat) (B:Abs.Rows) (I:Int):St:=ae 147 [.c (.sl 53 0 len false),.af,.af,.c (.ptr 2 0 0),.af,.af,.af,.af,.af,vi .i64 I] [none,none,qI N a0 a1 a2 a3 a4 a5 a6 a7 Y0 Y1 Y2 Y3 Y4 Y5 V0 V1 V2 V3 V4 V5 V6 V7 V8 W0 W1 W2 W3,none,none,none,none,none,none,none,none,none,none,none,none,none,none,none,none,none,none,none,none,none,none,none,none,none,none,none,none,none,none,none,none,none,none,none,none,none,none,none,none,none,none,none,none,none,none,none,none,none,none,some (.rows 1 B true false)]
theorem Ir (e:Ce) (he:e.ok) (B:Abs.Rows) (hB:B.length<=300000000) :
  ah Tryz.prog 117 [.own 1 B,.val (.agg e.tree)] ⟨[.own 1 (B++Va e)],[none,none]⟩:=by
 obtain⟨N,kZ,G,O,C,Q,Sx,⟨a0,a1,a2,a3,a4,a5,a6,a7⟩,U,U0,U1,U2,U3,U4,U5,U6,U7,At,Sq,Xx,Z⟩:=e;obtain⟨hN,Qr,hG,hO,hC,hQ,Vb,hR,hU,Zt,OQ,Zu,Zv,Zw,Zx,Zy,Zz,OR,Qt,Xk,hZ⟩:=he;simp only at hN Qr hG hO hC hQ Vb hR hU Zt OQ Zu Zv Zw Zx Zy Zz OR Qt Xk hZ;obtain⟨o0,o1,o2,o3,o4,o5,o6,o7⟩:=hR;simp only at o0 o1 o2 o3 o4 o5 o6 o7;obtain⟨B1,eW,b1,c0⟩:=kP (mR N) hB (xK N hN.1 hN.2 B (by omega))
 obtain⟨B2,dh,b2,c1⟩:=kP (jj Qr) b1 (jq kZ Qr.1 Qr.2 B1 (by omega));obtain⟨B3,kx,b3,c2⟩:=kP (jj hG) b2 (jq G hG.1 hG.2 B2 (by omega));obtain⟨B4,vk,b4,c3⟩:=kP (DK hO.2) b3 (uT O hO.1 hO.2 B3 (by omega));obtain⟨B5,vn,b5,c4⟩:=kP (DQ hC) b4 (ud C hC.1 (by have:=hC.2;omega) B4 (by omega));obtain⟨B6,vq,b6,c5⟩:=kP (DQ hQ) b5 (ud Q hQ.1 (by have:=hQ.2;omega) B5 (by omega))
 obtain⟨B7,vr,b7,c6⟩:=kP (DQ Vb) b6 (ud Sx Vb.1 (by have:=Vb.2;omega) B6 (by omega));obtain⟨B8,vw,b8,c7⟩:=kP (mR a0) b7 (xK a0 o0.1 o0.2 B7 (by omega));obtain⟨B9,yp,b9,c8⟩:=kP (mR a1) b8 (xK a1 o1.1 o1.2 B8 (by omega));obtain⟨xH,nT,L0,c9⟩:=kP (mR a2) b9 (xK a2 o2.1 o2.2 B9 (by omega));obtain⟨Gj,vy,Ie,c10⟩:=kP (mR a3) L0 (xK a3 o3.1 o3.2 xH (by omega));obtain⟨Qj,Ij,Qk,c11⟩:=kP (mR a4) Ie (xK a4 o4.1 o4.2 Gj (by omega))
 obtain⟨Ql,Ik,Zm,c12⟩:=kP (mR a5) Qk (xK a5 o5.1 o5.2 Qj (by omega));obtain⟨Qm,Il,Zn,c13⟩:=kP (mR a6) Zm (xK a6 o6.1 o6.2 Ql (by omega));obtain⟨Qn,Im,Zo,c14⟩:=kP (mR a7) Zn (xK a7 o7.1 o7.2 Qm (by omega));obtain⟨Qo,Io,Zp,c15⟩:=kP (ml hU) Zo (Qf U hU.1 hU.2 Qn (by omega));obtain⟨Qp,Ip,Zq,c16⟩:=kP (ml Zt) Zp (Qf U0 Zt.1 Zt.2 Qo (by omega));obtain⟨NU,Iq,Zr,c17⟩:=kP (ml OQ) Zq (Qf U1 OQ.1 OQ.2 Qp (by omega))
 obtain⟨B19,Xl,b19,c18⟩:=kP (ml Zu) Zr (Qf U2 Zu.1 Zu.2 NU (by omega));obtain⟨B20,Xm,b20,c19⟩:=kP (ml Zv) b19 (Qf U3 Zv.1 Zv.2 B19 (by omega));obtain⟨B21,Xn,T0,c20⟩:=kP (ml Zw) b20 (Qf U4 Zw.1 Zw.2 B20 (by omega));obtain⟨B22,Xo,T1,c21⟩:=kP (ml Zx) T0 (Qf U5 Zx.1 Zx.2 B21 (by omega));obtain⟨B23,Xp,b23,c22⟩:=kP (ml Zy) T1 (Qf U6 Zy.1 Zy.2 B22 (by omega))
 obtain⟨B24,Xq,b24,c23⟩:=kP (ml Zz) b23 (Qf U7 Zz.1 Zz.2 B23 (by omega));obtain⟨T3,Xr,b25,c24⟩:=kP (qM (At.length:Int)) b24 (Bt (At.length:Int) (by have:=OR.2;omega) (by have:=OR.2;omega) B24 (by omega));have sAt:=Gq OR;have sSq:=Gr Qt;have sX:=JJ Xk;rw[show B++Va ⟨N,kZ,G,O,C,Q,Sx,⟨a0,a1,a2,a3,a4,a5,a6,a7⟩,U,U0,U1,U2,U3,U4,U5,U6,U7,At,Sq,Xx,Z⟩=(T3++At.flatMap yY++nB (Sq.length:Int)++Sq.flatMap yZ++nB (Xx.length:Int)++Xx.flatMap NV)++L3 Z by unfold Va;simp only[Xr,Xq,Xp,Xo,Xn,Xm,Xl,Iq,Ip,Io,Im,Il,Ik,Ij,vy,nT,yp,vw,vr,vq,vn,vk,kx,dh,eW,List.append_assoc]]
 rw[show Ce.tree ⟨N,kZ,G,O,C,Q,Sx,⟨a0,a1,a2,a3,a4,a5,a6,a7⟩,U,U0,U1,U2,U3,U4,U5,U6,U7,At,Sq,Xx,Z⟩=[.v (.int .i64 N),.aa false (an kZ),.aa false (an G),.aa false (gD O),.aa false (di C),.aa false (di Q),.aa false (di Sx),.v (.int .i64 a0),.v (.int .i64 a1),.v (.int .i64 a2),.v (.int .i64 a3),.v (.int .i64 a4),.v (.int .i64 a5),.v (.int .i64 a6),.v (.int .i64 a7),.aa false (ur U),.aa false (ur U0),.aa false (ur U1),.aa false (ur U2),.aa false (ur U3),.aa false (ur U4),.aa false (ur U5),.aa false (ur U6),.aa false (ur U7),.aa false (Gn At),.aa false (Gp Sq),.aa false (Er Xx),.aa false (oT Z)] from rfl]
 obtain⟨n1,LW⟩:∃n,n=At.length:=⟨_,rfl⟩;obtain⟨n2,Ft⟩:∃n,n=Sq.length:=⟨_,rfl⟩;obtain⟨n3,PI⟩:∃n,n=Xx.length:=⟨_,rfl⟩;obtain⟨W0,hW0⟩:∃X,X=Gn At:=⟨_,rfl⟩;obtain⟨W1,hW1⟩:∃X,X=Gp Sq:=⟨_,rfl⟩;obtain⟨W2,hW2⟩:∃X,X=Er Xx:=⟨_,rfl⟩;have ZA:W0.length=n1:=by rw[hW0,JF,LW]
 have ZB:W1.length=n2:=by rw[hW1,JG,Ft]
 have ZC:W2.length=n3:=by rw[hW2,JH,PI]
 have ln1:n1<=100:=by rw[LW];exact OR.2
 have ln2:n2<=100:=by rw[Ft];exact Qt.2
 have ln3:n3<=100:=by rw[PI];exact Xk.2
 rw[<-hW0,<-hW1,<-hW2];obtain⟨N1,hN1⟩:∃N:Int,N=(At.length:Int):=⟨_,rfl⟩;obtain⟨N2,Bb⟩:∃N:Int,N=(Sq.length:Int):=⟨_,rfl⟩;obtain⟨N3,hN3⟩:∃N:Int,N=(Xx.length:Int):=⟨_,rfl⟩;rw[<-hN1]at c24;rw[<-Bb,<-hN3];obtain⟨F0,M5⟩:∃Z,Z=T3++At.flatMap yY:=⟨_,rfl⟩;have f0:F0.length<=352983390:=by have:=sAt;rw[M5,List.length_append];omega
 obtain⟨F1,WY⟩:∃Z,Z=F0++nB N2:=⟨_,rfl⟩;have f1:F1.length<=352983392:=by have:=qM N2;rw[WY,List.length_append];omega
 obtain⟨F2,hF2⟩:∃Z,Z=F1++Sq.flatMap yZ:=⟨_,rfl⟩;have f2:F2.length<=361203992:=by have:=sSq;rw[hF2,List.length_append];omega
 obtain⟨F3,hF3⟩:∃Z,Z=F2++nB N3:=⟨_,rfl⟩;have f3:F3.length<=361203994:=by have:=qM N3;rw[hF3,List.length_append];omega
 obtain⟨F4,hF4⟩:∃Z,Z=F3++Xx.flatMap NV:=⟨_,rfl⟩;have f4:F4.length<=361847194:=by have:=sX;rw[hF4,List.length_append];omega
 rw[<-M5,<-WY,<-hF2,<-hF3,<-hF4];have g1:=Bt N2 (by omega) (by omega) F0 (by omega);have g2:=Bt N3 (by omega) (by omega) F2 (by omega);have g3:=uU Z hZ.1 hZ.2 F4 (by omega);rw[<-WY]at g1;rw[<-hF3]at g2;obtain⟨FE,hFE⟩:∃Z',Z'=F4++L3 Z:=⟨_,rfl⟩;rw[<-hFE]at g3 ⊢;generalize an kZ=Y0,an G=Y1,gD O=Y2,di C=Y3,di Q=Y4,di Sx=Y5,ur U=V0,ur U0=V1,ur U1=V2,ur U2=V3,ur U3=V4,ur U4=V5,ur U5=V6,ur U6=V7,ur U7=V8,oT Z=W3 at *
 have lq0:0=0:=rfl;obtain⟨l1,kv⟩:∃l1,l1=T3.length:=⟨_,rfl⟩;refine dC aj mixed [.own 1] Tryz.func117 rfl rfl (by kernel_rfl) fun zD zE _ _ _ _ _ _ _ _ _ _ _ _ _ _ _ _ _ _ _ _ _ zz _ ao _ _ _ _ _ ab aD _ _ _ _ _ _ _ _ _ _ _ _ _ _ _ _ _ _ A L F hS hF=>?_
 have yB:ao (ab B) (ab B)=true:=by rw[hS.neq];exact decide_eq_true rfl
 have yB1:ao (ab B1) (ab B1)=true:=by rw[hS.neq];exact decide_eq_true rfl
 have yB2:ao (ab B2) (ab B2)=true:=by rw[hS.neq];exact decide_eq_true rfl
 have yB3:ao (ab B3) (ab B3)=true:=by rw[hS.neq];exact decide_eq_true rfl
 have yB4:ao (ab B4) (ab B4)=true:=by rw[hS.neq];exact decide_eq_true rfl
 have yB5:ao (ab B5) (ab B5)=true:=by rw[hS.neq];exact decide_eq_true rfl
 have yB6:ao (ab B6) (ab B6)=true:=by rw[hS.neq];exact decide_eq_true rfl
 have yB7:ao (ab B7) (ab B7)=true:=by rw[hS.neq];exact decide_eq_true rfl
 have yB8:ao (ab B8) (ab B8)=true:=by rw[hS.neq];exact decide_eq_true rfl
 have yB9:ao (ab B9) (ab B9)=true:=by rw[hS.neq];exact decide_eq_true rfl
 have acn:ao (ab xH) (ab xH)=true:=by rw[hS.neq];exact decide_eq_true rfl
 have aco:ao (ab Gj) (ab Gj)=true:=by rw[hS.neq];exact decide_eq_true rfl
 have acp:ao (ab Qj) (ab Qj)=true:=by rw[hS.neq];exact decide_eq_true rfl
 have acq:ao (ab Ql) (ab Ql)=true:=by rw[hS.neq];exact decide_eq_true rfl
 have acr:ao (ab Qm) (ab Qm)=true:=by rw[hS.neq];exact decide_eq_true rfl
 have acs:ao (ab Qn) (ab Qn)=true:=by rw[hS.neq];exact decide_eq_true rfl
 have acu:ao (ab Qo) (ab Qo)=true:=by rw[hS.neq];exact decide_eq_true rfl
 have acv:ao (ab Qp) (ab Qp)=true:=by rw[hS.neq];exact decide_eq_true rfl
 have acw:ao (ab NU) (ab NU)=true:=by rw[hS.neq];exact decide_eq_true rfl
 have acx:ao (ab B19) (ab B19)=true:=by rw[hS.neq];exact decide_eq_true rfl
 have acy:ao (ab B20) (ab B20)=true:=by rw[hS.neq];exact decide_eq_true rfl
 have acz:ao (ab B21) (ab B21)=true:=by rw[hS.neq];exact decide_eq_true rfl
 have acA:ao (ab B22) (ab B22)=true:=by rw[hS.neq];exact decide_eq_true rfl
 have acB:ao (ab B23) (ab B23)=true:=by rw[hS.neq];exact decide_eq_true rfl
 have acC:ao (ab B24) (ab B24)=true:=by rw[hS.neq];exact decide_eq_true rfl
 have uZ:ab T3=l1:=by rw[hS.len,kv]
 have ec1:aA zD .u64 (zz (ab W0))=N1:=by rw[hS.aB,hS.len,ZA,hS.wrap,eG (by omega) (by omega),hN1,LW]
 have lE1:=hS.eU ZA;cbv at ec1;have ec2:aA zD .u64 (zz (ab W1))=N2:=by rw[hS.aB,hS.len,ZB,hS.wrap,eG (by omega) (by omega),Bb,Ft]
 have TA:=hS.eU ZB;cbv at ec2;have ec3:aA zD .u64 (zz (ab W2))=N3:=by rw[hS.aB,hS.len,ZC,hS.wrap,eG (by omega) (by omega),hN3,PI]
 have lE3:=hS.eU ZC;cbv at ec3;clear eW b1 dh b2 kx b3 vk b4 vn b5 vq b6 vr b7 vw b8 yp b9 nT L0 vy Ie Ij Qk Ik Zm Il Zn Im Zo Io Zp Ip Zq Iq Zr Xl b19 Xm b20 Xn T0 Xo T1 Xp b23 Xq b24 Xr;cbv;refine nd yB ?_;refine⟨_,hS.call c0,?_⟩;cbv;refine nd yB1 ?_;refine⟨_,hS.call c1,?_⟩;cbv;refine nd yB2 ?_;refine⟨_,hS.call c2,?_⟩;cbv;refine nd yB3 ?_
 refine⟨_,hS.call c3,?_⟩;cbv;refine nd yB4 ?_;refine⟨_,hS.call c4,?_⟩;cbv;refine nd yB5 ?_;refine⟨_,hS.call c5,?_⟩;cbv;refine nd yB6 ?_;refine⟨_,hS.call c6,?_⟩;cbv;refine aU aj mixed hS (9) ?_;cbv;repeat (first|apply bT rfl|apply bF rfl|apply nd rfl)
 refine nd yB7 ?_;refine⟨_,hS.call c7,?_⟩;cbv;cbv;repeat (first|apply bT rfl|apply bF rfl|apply nd rfl)
 refine nd yB8 ?_;refine⟨_,hS.call c8,?_⟩;cbv;cbv;repeat (first|apply bT rfl|apply bF rfl|apply nd rfl)
 refine nd yB9 ?_;refine⟨_,hS.call c9,?_⟩;cbv;cbv;repeat (first|apply bT rfl|apply bF rfl|apply nd rfl)
 refine nd acn ?_;refine⟨_,hS.call c10,?_⟩;cbv;cbv;repeat (first|apply bT rfl|apply bF rfl|apply nd rfl)
 refine nd aco ?_;refine⟨_,hS.call c11,?_⟩;cbv;cbv;repeat (first|apply bT rfl|apply bF rfl|apply nd rfl)
 refine nd acp ?_;refine⟨_,hS.call c12,?_⟩;cbv;cbv;repeat (first|apply bT rfl|apply bF rfl|apply nd rfl)
 refine nd acq ?_;refine⟨_,hS.call c13,?_⟩;cbv;cbv;repeat (first|apply bT rfl|apply bF rfl|apply nd rfl)
 refine nd acr ?_;refine⟨_,hS.call c14,?_⟩;cbv;cbv;repeat (first|apply bT rfl|apply bF rfl|apply nd rfl)
 refine nd acs ?_;refine⟨_,hS.call c15,?_⟩;cbv;refine aU aj mixed hS (9) ?_;cbv;repeat (first|apply bT rfl|apply bF rfl|apply nd rfl)
 refine nd acu ?_;refine⟨_,hS.call c16,?_⟩;cbv;cbv;repeat (first|apply bT rfl|apply bF rfl|apply nd rfl)
 refine nd acv ?_;refine⟨_,hS.call c17,?_⟩;cbv;cbv;repeat (first|apply bT rfl|apply bF rfl|apply nd rfl)
 refine nd acw ?_;refine⟨_,hS.call c18,?_⟩;cbv;cbv;repeat (first|apply bT rfl|apply bF rfl|apply nd rfl)
 refine nd acx ?_;refine⟨_,hS.call c19,?_⟩;cbv;cbv;repeat (first|apply bT rfl|apply bF rfl|apply nd rfl)
 refine nd acy ?_;refine⟨_,hS.call c20,?_⟩;cbv;cbv;repeat (first|apply bT rfl|apply bF rfl|apply nd rfl)
 refine nd acz ?_;refine⟨_,hS.call c21,?_⟩;cbv;cbv;repeat (first|apply bT rfl|apply bF rfl|apply nd rfl)
 refine nd acA ?_;refine⟨_,hS.call c22,?_⟩;cbv;cbv;repeat (first|apply bT rfl|apply bF rfl|apply nd rfl)
 refine nd acB ?_;refine⟨_,hS.call c23,?_⟩;cbv;cbv;repeat (first|apply bT rfl|apply bF rfl|apply nd rfl)
 refine nd acC ?_;simp only[ec1];refine⟨_,hS.call c24,?_⟩;cbv;simp only[uZ];refine fA aj mixed hS (n:=n1) (fun i (z:Nat×Abs.Rows)=>BK N a0 a1 a2 a3 a4 a5 a6 a7 Y0 Y1 Y2 Y3 Y4 Y5 V0 V1 V2 V3 V4 V5 V6 V7 V8 W0 W1 W2 W3 z.1 z.2 (Int.ofNat i)) (fun i z=>z.1=z.2.length/\z.2=T3++(At.take i).flatMap yY) (a0:=(l1,T3)) (fi ?_ ?_) rfl (by show 2<=52;omega) ⟨kv,by simp⟩ ?_ ?_
 ·simp[dO,BK,qI,ae,vi,vb]
 ·simp[dP,BK,qI,ae]
 ·rintro i ⟨l2,D2⟩ hi ⟨ee,ly⟩
  simp only at ee ly;have e1:=(hS.gC ZA hi (by omega)).1;have i1:aA zD .i64 (dU zE (Int.ofNat i) 1)=(i:Int)+1:=(hS.gC ZA hi (by omega)).2.1;obtain⟨x,kY,hr,eC⟩:=RM (l:=At) (i:=i) (by omega);have hlen:((At.take i).flatMap yY).length<=160800:=Gq ⟨fun y hy=>OR.1 y (List.mem_of_mem_take hy),by rw[List.length_take];omega⟩;have NW:D2.length<=400000000:=by rw[ly,List.length_append];omega
  have d0:=si x.1 ((OR.1 x kY).1.mono (by omega)) D2 (by omega);obtain⟨D3,Ep⟩:∃Z,Z=D2++qB x.1:=⟨_,rfl⟩;have m0:D3.length<=D2.length+804:=by have:=gU (OR.1 x kY).1;rw[Ep,List.length_append];omega
  rw[<-Ep]at d0;have d1:=si x.2 ((OR.1 x kY).2.mono (by omega)) D3 (by omega);obtain⟨D4,JK⟩:∃Z,Z=D3++qB x.2:=⟨_,rfl⟩;have m1:D4.length<=D3.length+804:=by have:=gU (OR.1 x kY).2;rw[JK,List.length_append];omega
  rw[<-JK]at d1;obtain⟨l3,qL⟩:∃y,y=D4.length:=⟨_,rfl⟩;have ua:l3=D4.length/\D4=T3++(At.take (i+1)).flatMap yY:=⟨qL,by rw[eC];simp only[JK,Ep,ly,List.flatMap_append,List.flatMap_cons,List.flatMap_nil,yY,List.append_assoc,List.append_nil]⟩;have y2:ao l2 (ab D2)=true:=by rw[hS.neq,hS.len];exact decide_eq_true ee
  have y3:ao (ab D3) (ab D3)=true:=by rw[hS.neq];exact decide_eq_true rfl
  have zL:ab D4=l3:=by rw[hS.len,qL]
  have j2:aD W0 i=some ((qc x.1).row++(qc x.2).row):=by rw[hS.nth,hW0];exact hr
  clear Ep m0 JK m1 ly eC qL hr NW;obtain⟨s0,t0,r0,p0,w0,_⟩:=bD x.1;rw[w0]at d0 j2;clear w0;obtain⟨s1,t1,r1,p1,w1,_⟩:=bD x.2;rw[w1]at d1 j2;clear w1;cbv at j2;cbv at i1;refine⟨?_⟩;cbv;refine bT e1 ?_;simp only[j2];cbv;repeat (first|apply bT rfl|apply bF rfl|apply nd rfl)
  refine nd y2 ?_;refine⟨_,hS.call d0,?_⟩;cbv;simp only[j2];cbv;repeat (first|apply bT rfl|apply bF rfl|apply nd rfl)
  refine nd y3 ?_;refine⟨_,hS.call d1,?_⟩;cbv;simp only[zL,i1];refine aQ [(2,2),(51,54)] (l3,D4) ?_ ?_ ?_ ?_ rfl (by show 2<=52;omega) ua
  ·simp[aZ,BK,ae,vi,vb,AV.ay,AV.aI,Cell.ay,aq]
  ·simp[a8,BK,qI,ae,Abs.look,aq,aC.ay,Cell.ay]
  ·simp[aF,BK,qI,ae,aq]
  ·simp
 ·rintro⟨l2,D2⟩ ⟨ee,ly⟩
  simp only at ee ly;rw[List.take_of_length_le (by omega)]at ly;have y2:ao l2 (ab D2)=true:=by rw[hS.neq,hS.len];exact decide_eq_true ee
  obtain rfl:D2=F0:=by rw[ly,M5]
  have yF1:ab F1=F1.length:=by rw[hS.len]
  obtain⟨l4,hl4⟩:∃y,y=F1.length:=⟨_,rfl⟩;rw[<-hl4]at yF1;refine⟨?_⟩;cbv;refine bF lE1 ?_;repeat (first|apply bT rfl|apply bF rfl|apply nd rfl)
  refine nd y2 ?_;simp only[ec2];refine⟨_,hS.call g1,?_⟩;cbv;simp only[yF1];refine fA aj mixed hS (n:=n2) (fun i (z:Nat×Abs.Rows)=>BM N a0 a1 a2 a3 a4 a5 a6 a7 Y0 Y1 Y2 Y3 Y4 Y5 V0 V1 V2 V3 V4 V5 V6 V7 V8 W0 W1 W2 W3 z.1 z.2 (Int.ofNat i)) (fun i z=>z.1=z.2.length/\z.2=F1++(Sq.take i).flatMap yZ) (a0:=(l4,F1)) (fi ?_ ?_) rfl (by show 2<=53;omega) ⟨hl4,by simp⟩ ?_ ?_
  ·simp[dO,BM,qI,ae,vi,vb]
  ·simp[dP,BM,qI,ae]
  ·rintro i ⟨l2,D2⟩ hi ⟨ee,ly⟩
   simp only at ee ly;have e1:=(hS.gC ZB hi (by omega)).1;have i1:aA zD .i64 (dU zE (Int.ofNat i) 1)=(i:Int)+1:=(hS.gC ZB hi (by omega)).2.1;obtain⟨x,kY,hr,eC⟩:=RO (l:=Sq) (i:=i) (by omega);have hlen:((Sq.take i).flatMap yZ).length<=8220600:=Gr ⟨fun y hy=>Qt.1 y (List.mem_of_mem_take hy),by rw[List.length_take];omega⟩;have NW:D2.length<=400000000:=by rw[ly,List.length_append];omega
   have d0:=si x.1 ((Qt.1 x kY).1.mono (by omega)) D2 (by omega);obtain⟨D3,Ep⟩:∃Z,Z=D2++qB x.1:=⟨_,rfl⟩;have m0:D3.length<=D2.length+804:=by have:=gU (Qt.1 x kY).1;rw[Ep,List.length_append];omega
   rw[<-Ep]at d0;have d1:=nS x.2 (Qt.1 x kY).2.1 (Qt.1 x kY).2.2 D3 (by omega);obtain⟨D4,JK⟩:∃Z,Z=D3++Gh x.2:=⟨_,rfl⟩;have m1:D4.length<=D3.length+81402:=by have:=oH (Qt.1 x kY).2;rw[JK,List.length_append];omega
   rw[<-JK]at d1;obtain⟨l3,qL⟩:∃y,y=D4.length:=⟨_,rfl⟩;have ua:l3=D4.length/\D4=F1++(Sq.take (i+1)).flatMap yZ:=⟨qL,by rw[eC];simp only[JK,Ep,ly,List.flatMap_append,List.flatMap_cons,List.flatMap_nil,yZ,List.append_assoc,List.append_nil]⟩;have y2:ao l2 (ab D2)=true:=by rw[hS.neq,hS.len];exact decide_eq_true ee
   have y3:ao (ab D3) (ab D3)=true:=by rw[hS.neq];exact decide_eq_true rfl
   have zL:ab D4=l3:=by rw[hS.len,qL]
   have j2:aD W1 i=some ((qc x.1).row ++ [.aa false (aV x.2)]):=by rw[hS.nth,hW1];exact hr
   clear Ep m0 JK m1 ly eC qL hr NW;obtain⟨s0,t0,r0,p0,w0,_⟩:=bD x.1;rw[w0]at d0 j2;clear w0;generalize aV x.2=P at *;cbv at j2;cbv at i1;refine⟨?_⟩;cbv;refine bT e1 ?_;simp only[j2];cbv;repeat (first|apply bT rfl|apply bF rfl|apply nd rfl)
   refine nd y2 ?_;refine⟨_,hS.call d0,?_⟩;cbv;simp only[j2];cbv;repeat (first|apply bT rfl|apply bF rfl|apply nd rfl)
   refine nd y3 ?_;refine⟨_,hS.call d1,?_⟩;cbv;simp only[zL,i1];refine aQ [(2,2),(52,55)] (l3,D4) ?_ ?_ ?_ ?_ rfl (by show 2<=53;omega) ua
   ·simp[aZ,BM,ae,vi,vb,AV.ay,AV.aI,Cell.ay,aq]
   ·simp[a8,BM,qI,ae,Abs.look,aq,aC.ay,Cell.ay]
   ·simp[aF,BM,qI,ae,aq]
   ·simp
  ·rintro⟨l2,D2⟩ ⟨ee,ly⟩
   simp only at ee ly;rw[List.take_of_length_le (by omega)]at ly;have y2:ao l2 (ab D2)=true:=by rw[hS.neq,hS.len];exact decide_eq_true ee
   obtain rfl:D2=F2:=by rw[ly,hF2]
   have yF3:ab F3=F3.length:=by rw[hS.len]
   obtain⟨l5,hl5⟩:∃y,y=F3.length:=⟨_,rfl⟩;rw[<-hl5]at yF3;refine⟨?_⟩;cbv;refine bF TA ?_;repeat (first|apply bT rfl|apply bF rfl|apply nd rfl)
   refine nd y2 ?_;simp only[ec3];refine⟨_,hS.call g2,?_⟩;cbv;simp only[yF3];refine fA aj mixed hS (n:=n3) (fun i (z:Nat×Abs.Rows)=>BN N a0 a1 a2 a3 a4 a5 a6 a7 Y0 Y1 Y2 Y3 Y4 Y5 V0 V1 V2 V3 V4 V5 V6 V7 V8 W0 W1 W2 W3 z.1 z.2 (Int.ofNat i)) (fun i z=>z.1=z.2.length/\z.2=F3++(Xx.take i).flatMap NV) (a0:=(l5,F3)) (fi ?_ ?_) rfl (by show 2<=54;omega) ⟨hl5,by simp⟩ ?_ ?_
   ·simp[dO,BN,qI,ae,vi,vb]
   ·simp[dP,BN,qI,ae]
   ·rintro i ⟨l2,D2⟩ hi ⟨ee,ly⟩
    simp only at ee ly;have e1:=(hS.gC ZC hi (by omega)).1;have i1:aA zD .i64 (dU zE (Int.ofNat i) 1)=(i:Int)+1:=(hS.gC ZC hi (by omega)).2.1;obtain⟨x,kY,hr,eC⟩:=JI (l:=Xx) (i:=i) (by omega);have hlen:((Xx.take i).flatMap NV).length<=643200:=JJ ⟨fun y hy=>Xk.1 y (List.mem_of_mem_take hy),by rw[List.length_take];omega⟩;have NW:D2.length<=400000000:=by rw[ly,List.length_append];omega
    obtain⟨q0,q1,q2,q3,q4,q5,q6,q7⟩:=Xk.1 x kY;have d0:=si x.a0 (q0.mono (by omega)) D2 (by omega);obtain⟨D3,Ep⟩:∃Z,Z=D2++qB x.a0:=⟨_,rfl⟩;have m0:D3.length<=D2.length+804:=by have:=gU q0;rw[Ep,List.length_append];omega
    rw[<-Ep]at d0;have d1:=si x.a1 (q1.mono (by omega)) D3 (by omega);obtain⟨D4,JK⟩:∃Z,Z=D3++qB x.a1:=⟨_,rfl⟩;have m1:D4.length<=D3.length+804:=by have:=gU q1;rw[JK,List.length_append];omega
    rw[<-JK]at d1;have d2:=si x.a2 (q2.mono (by omega)) D4 (by omega);obtain⟨D5,ZD⟩:∃Z,Z=D4++qB x.a2:=⟨_,rfl⟩;have m2:D5.length<=D4.length+804:=by have:=gU q2;rw[ZD,List.length_append];omega
    rw[<-ZD]at d2;have d3:=si x.a3 (q3.mono (by omega)) D5 (by omega);obtain⟨D6,ZE⟩:∃Z,Z=D5++qB x.a3:=⟨_,rfl⟩;have m3:D6.length<=D5.length+804:=by have:=gU q3;rw[ZE,List.length_append];omega
    rw[<-ZE]at d3;have d4:=si x.a4 (q4.mono (by omega)) D6 (by omega);obtain⟨D7,ZF⟩:∃Z,Z=D6++qB x.a4:=⟨_,rfl⟩;have m4:D7.length<=D6.length+804:=by have:=gU q4;rw[ZF,List.length_append];omega
    rw[<-ZF]at d4;have d5:=si x.a5 (q5.mono (by omega)) D7 (by omega);obtain⟨D8,ZG⟩:∃Z,Z=D7++qB x.a5:=⟨_,rfl⟩;have m5:D8.length<=D7.length+804:=by have:=gU q5;rw[ZG,List.length_append];omega
    rw[<-ZG]at d5;have d6:=si x.a6 (q6.mono (by omega)) D8 (by omega);obtain⟨D9,ZH⟩:∃Z,Z=D8++qB x.a6:=⟨_,rfl⟩;have m6:D9.length<=D8.length+804:=by have:=gU q6;rw[ZH,List.length_append];omega
    rw[<-ZH]at d6;have d7:=si x.a7 (q7.mono (by omega)) D9 (by omega);obtain⟨Vc,Qu⟩:∃Z,Z=D9++qB x.a7:=⟨_,rfl⟩;have m7:Vc.length<=D9.length+804:=by have:=gU q7;rw[Qu,List.length_append];omega
    rw[<-Qu]at d7;obtain⟨l3,qL⟩:∃y,y=Vc.length:=⟨_,rfl⟩;have ua:l3=Vc.length/\Vc=F3++(Xx.take (i+1)).flatMap NV:=⟨qL,by rw[eC];simp only[Qu,ZH,ZG,ZF,ZE,ZD,JK,Ep,ly,List.flatMap_append,List.flatMap_cons,List.flatMap_nil,NV,List.append_assoc,List.append_nil]⟩;have y2:ao l2 (ab D2)=true:=by rw[hS.neq,hS.len];exact decide_eq_true ee
    have y3:ao (ab D3) (ab D3)=true:=by rw[hS.neq];exact decide_eq_true rfl
    have y4:ao (ab D4) (ab D4)=true:=by rw[hS.neq];exact decide_eq_true rfl
    have y5:ao (ab D5) (ab D5)=true:=by rw[hS.neq];exact decide_eq_true rfl
    have y6:ao (ab D6) (ab D6)=true:=by rw[hS.neq];exact decide_eq_true rfl
    have y7:ao (ab D7) (ab D7)=true:=by rw[hS.neq];exact decide_eq_true rfl
    have y8:ao (ab D8) (ab D8)=true:=by rw[hS.neq];exact decide_eq_true rfl
    have y9:ao (ab D9) (ab D9)=true:=by rw[hS.neq];exact decide_eq_true rfl
    have zL:ab Vc=l3:=by rw[hS.len,qL]
    have j2:aD W2 i=some (OP x):=by rw[hS.nth,hW2];exact hr
    clear Ep m0 JK m1 ZD m2 ZE m3 ZF m4 ZG m5 ZH m6 Qu m7 ly eC qL hr NW;unfold OP at j2;obtain⟨s0,t0,r0,p0,w0,_⟩:=bD x.a0;rw[w0]at d0 j2;clear w0;obtain⟨s1,t1,r1,p1,w1,_⟩:=bD x.a1;rw[w1]at d1 j2;clear w1;obtain⟨s2,t2,r2,p2,w2,_⟩:=bD x.a2;rw[w2]at d2 j2;clear w2;obtain⟨s3,t3,r3,p3,w3,_⟩:=bD x.a3;rw[w3]at d3 j2;clear w3;obtain⟨s4,t4,r4,p4,w4,_⟩:=bD x.a4;rw[w4]at d4 j2
    clear w4;obtain⟨s5,t5,r5,p5,w5,_⟩:=bD x.a5;rw[w5]at d5 j2;clear w5;obtain⟨s6,t6,r6,p6,w6,_⟩:=bD x.a6;rw[w6]at d6 j2;clear w6;obtain⟨s7,t7,r7,p7,w7,_⟩:=bD x.a7;rw[w7]at d7 j2;clear w7;cbv at j2;cbv at i1;refine⟨?_⟩;cbv;refine bT e1 ?_;refine aU aj mixed hS (9) ?_;cbv;repeat (first|apply bT rfl|apply bF rfl|apply nd rfl)
    simp only[j2];cbv;repeat (first|apply bT rfl|apply bF rfl|apply nd rfl)
    refine nd y2 ?_;refine⟨_,hS.call d0,?_⟩;cbv;repeat (first|apply bT rfl|apply bF rfl|apply nd rfl)
    simp only[j2];cbv;repeat (first|apply bT rfl|apply bF rfl|apply nd rfl)
    refine nd y3 ?_;refine⟨_,hS.call d1,?_⟩;cbv;repeat (first|apply bT rfl|apply bF rfl|apply nd rfl)
    simp only[j2];cbv;repeat (first|apply bT rfl|apply bF rfl|apply nd rfl)
    refine nd y4 ?_;refine⟨_,hS.call d2,?_⟩;cbv;repeat (first|apply bT rfl|apply bF rfl|apply nd rfl)
    simp only[j2];cbv;repeat (first|apply bT rfl|apply bF rfl|apply nd rfl)
    refine nd y5 ?_;refine⟨_,hS.call d3,?_⟩;cbv;repeat (first|apply bT rfl|apply bF rfl|apply nd rfl)
    simp only[j2];cbv;repeat (first|apply bT rfl|apply bF rfl|apply nd rfl)
    refine nd y6 ?_;refine⟨_,hS.call d4,?_⟩;cbv;repeat (first|apply bT rfl|apply bF rfl|apply nd rfl)
    simp only[j2];cbv;repeat (first|apply bT rfl|apply bF rfl|apply nd rfl)
    refine nd y7 ?_;refine⟨_,hS.call d5,?_⟩;cbv;repeat (first|apply bT rfl|apply bF rfl|apply nd rfl)
    simp only[j2];cbv;repeat (first|apply bT rfl|apply bF rfl|apply nd rfl)
    refine nd y8 ?_;refine⟨_,hS.call d6,?_⟩;cbv;repeat (first|apply bT rfl|apply bF rfl|apply nd rfl)
    simp only[j2];cbv;repeat (first|apply bT rfl|apply bF rfl|apply nd rfl)
    refine nd y9 ?_;refine⟨_,hS.call d7,?_⟩;cbv;repeat (first|apply bT rfl|apply bF rfl|apply nd rfl)
    simp only[zL,i1];refine aQ [(2,2),(53,68)] (l3,Vc) ?_ ?_ ?_ ?_ rfl (by show 2<=54;omega) ua
    ·simp[aZ,BN,ae,vi,vb,AV.ay,AV.aI,Cell.ay,aq]
    ·simp[a8,BN,qI,ae,Abs.look,aq,aC.ay,Cell.ay]
    ·simp[aF,BN,qI,ae,aq]
    ·simp
   ·rintro⟨l2,D2⟩ ⟨ee,ly⟩
    simp only at ee ly;rw[List.take_of_length_le (by omega)]at ly;have y2:ao l2 (ab D2)=true:=by rw[hS.neq,hS.len];exact decide_eq_true ee
    obtain rfl:D2=F4:=by rw[ly,hF4]
    have yE:ao (ab FE) (ab FE)=true:=by rw[hS.neq];exact decide_eq_true rfl
    refine⟨?_⟩;cbv;refine bF lE3 (nd y2 ?_);refine⟨_,hS.call g3,?_⟩;cbv;exact nd yE (hF _ (ak.refl _))
end Go.Proofs.YtekefilngojelaaGreat
end
