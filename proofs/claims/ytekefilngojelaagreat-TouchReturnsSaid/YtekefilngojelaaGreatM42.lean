/- A part of the proof. -/
import Derived.Test.YtekefilngojelaaGreatM18
import Derived.Test.YtekefilngojelaaGreatM41
set_option maxHeartbeats 0
set_option maxRecDepth 100000
set_option linter.unusedVariables false
set_option linter.unusedSimpArgs false
section
namespace Go.Proofs.YtekefilngojelaaGreat
open Go Go.Abs Go.Abs.M Go.Proofs
def eT (aG:List (List T2)) (C:List (List (List T2))) (q:jC):BW:=⟨q.eN,an aG,q.G,q.eO,di C,q.Q,q.Sx,q.r0,q.r1,q.r2,q.r3,q.r4,q.r5,q.r6,q.r7,q.r8,q.r9,q.TR,q.W4,q.W5,q.W6,q.W7,q.W8,q.Zi,q.At,q.Sq,q.X,q.eB⟩
def psn:Abs.Rows->Bool
 | []=>false
 | _::_=>true
theorem Cn (l:Abs.Rows):psn l=decide (0<l.length):=by cases l<;>simp[psn]
def nz:Int->Bool
 | .ofNat 0=>false
 | _=>true
theorem Sb (n:Int):nz n=decide (n≠0):=by
 match n with
 | .ofNat 0=>rfl
 | .ofNat (k+1)=>rfl
 | .negSucc k=>rfl
theorem mo.formed {k:Int} {aG:List (List T2)} {C:List (List (List T2))} {q:jC} {N:Int} {E D:List (List T2)} (h:mo E.length k aG C q) (hK:NM N E D) (h2:2<=N) :
  ah Tryz.prog 48 [.val (.agg [.v (.int .i64 N),.aa false (an E),.aa false (an D)]),.val (.agg (cT k q)),.val (.agg (eT aG C q).row)] ⟨[.val (tb true)],[none,none,none]⟩:=by
 have hN:2<=N/\N<=4:=⟨h2,hK.n.2⟩;have lE:=hK.le;have hR:=h.rgt hK h2;have cC0:=jD [] N hN (by simp) (by simp);rw[show an []=[] from rfl]at cC0;have lP:(an E).length=E.length:=nU _;obtain⟨x,hx⟩:∃x,x=eT aG C q:=⟨_,rfl⟩;rw[<-hx];have cU0:=fun N X1 X2 X3 X4 X5 X6 Z1 Z2 Z3 Z4=>xM N 0 0 0 0 0 0 0 0 X1 X2 X3 X4 X5 X6 [] [] [] [] [] [] [] [] [] Z1 Z2 Z3 Z4 _ _ _ _ _ _ _ _ _ _ _ _ (Sb _) (Cn _) (Cn _) (Cn _) (Cn _) (Cn _) (Cn _) (Cn _) (Cn _) (Cn _) (Cn _) Gw
 have Uc:=fun N X1 X2 X3 X4 X5 X6 Z1 Z2 Z3 Z4 a U U1=>xM N 1 a 0 0 0 0 0 0 X1 X2 X3 X4 X5 X6 U [] U1 [] [] [] [] [] [] Z1 Z2 Z3 Z4 _ _ _ _ _ _ _ _ _ _ _ _ (Sb _) (Cn _) (Cn _) (Cn _) (Cn _) (Cn _) (Cn _) (Cn _) (Cn _) (Cn _) (Cn _) (Gx a U U1)
 rcases h with⟨P,aG,hP,c1,c2⟩|⟨P,C,G,O,Q,Sx,hP,b⟩|⟨n,aG,n1,c1,c2⟩|⟨O1,Lc,C,G,O,Q,Sx,hO,hL,lL,b⟩|⟨cn,cd,C,G,O,Q,Sx,h1,h3,b⟩|⟨cn,cd,cr,C,G,O,Q,Sx,h1,h3,b⟩|⟨Z,C,G,O,Q,Sx,U,U1,At,a,hZ,lZ,b,r⟩|⟨P,Z,Sg,C,G,O,Q,Sx,U,U1,At,a,hP,hZ,lZ,hg,lg,b,r⟩|⟨aG,Sq,c1,c2,s1,s2⟩|⟨P,aG,Sq,hP,c1,c2,s1,s2⟩|⟨Lc,C,hL,lL,hC⟩|⟨cn,C,G,O,h1,b0⟩|⟨cn,Xs,Bs,h1,x1,x2,b1,b2⟩
 all_goals
  try have lC:(an aG).length=(an E).length:=by rw[nU,nU];exact c1
  try have cC:=jD aG N hN (fun p hp=>(c2 p hp).Vh) (by omega)
  try have cq:=Aa Sq N hN (fun x hx=>⟨(s1 x hx).1,(s1 x hx).2.Vh⟩) (by omega)
  try have cA:=Ac Xs N hN x1 (by omega)
  try have cB:=sC Bs N hN b1 (by omega)
  try have cb:=uV N hN E (an D) x true G O C Q Sx lE ⟨fun p hp=>(b.s p hp).Vh,b.g⟩ b.o b.c.o (fun _=>⟨b.q.o,b.x.o⟩) (by rw[hx];rfl) (by rw[hx];rfl) (by rw[hx];rfl) (by rw[hx];rfl) (by rw[hx];rfl)
  try have cb:=uV N hN E (an D) x false G O C [] [] lE ⟨fun p hp=>(b0.s p hp).Vh,b0.g⟩ b0.o b0.c.o (fun h=>absurd h (by decide)) (by rw[hx];rfl) (by rw[hx];rfl) (by rw[hx];rfl) (by rw[hx];rfl) (by rw[hx];rfl)
  try have cr:=DV 1 a N U U1 (by unfold Eo;omega) r.a r.u r.u1 hN
  try unfold cRs at cr
  try have ci:=Iu At r.t (by have:=r.l;omega)
  try have Vm:Lc.length=0∨Lc.length=1∨Lc.length=2∨Lc.length=3:=by omega
  try have ct:=jZ C (1+Lc.length*(Lc.length+1)/2) E.length N hN hC.o (by rcases Vm with h|h|h|h<;>rw[h]<;>decide) (by omega)
  try have lL2:(an Lc).length=Lc.length:=nU _
  try have hs:∃i:Int,i=((1+Lc.length*(Lc.length+1)/2:Nat):Int):=⟨_,rfl⟩
  try obtain⟨sI,L4⟩:=hs
  try have hm:∃i:Int,i=(E.length:Int):=⟨_,rfl⟩
  try obtain⟨mI,Ab⟩:=hm
  try rw[<-L4,<-Ab]at ct
  subst hx;simp only[cT,jL,eT,BW.row,show an []=[] from rfl,show di []=[] from rfl]at hR ⊢
  try simp only[jL,eT,BW.row,show an []=[] from rfl]at cb
  clear hK h2;generalize an E=XE,an D=XD at *
  try generalize aV P=X1 at *
  try generalize gD O1=X2 at *
  try generalize an Lc=X3 at *
  try generalize DN Sg=X4 at *
  try generalize oT Z=X5 at *
  try generalize an aG=Y1 at *
  try generalize an G=Y2 at *
  try generalize gD O=Y3 at *
  try generalize di C=Y4 at *
  try generalize di Q=Y5 at *
  try generalize di Sx=Y6 at *
  try generalize ur U=Y7 at *
  try generalize ur U1=Y8 at *
  try generalize Gn At=Y9 at *
  try generalize Gp Sq=Z1 at *
  try generalize Er Xs=Z2 at *
  try generalize oT Bs=Z3 at *
  as_aux_lemma=>
   refine ep aj mixed [.val] Tryz.func48 rfl rfl (by kernel_rfl) fun zD zE _ zH zI _ _ _ _ _ _ _ zT _ _ zX _ _ _ _ _ _ _ _ _ _ _ _ _ _ _ _ _ _ A L F hS hF=>?_
   try have es:aA zD .i64 (dU zE 1 (aA zD .i64 (xR zI (aA zD .i64 (ny zH (Int.ofNat X3.length) (aA zD .i64 (dU zE (Int.ofNat X3.length) 1)))) 2)))=sI:=by rw[lL2,L4];simp only[hS.add,hS.mul,hS.quo,hS.wrap];rcases Vm with h|h|h|h<;>rw[h]<;>decide
   try have em:Int.ofNat XE.length=mI:=by have:=Vm;rw[lP,Ab];rfl
   try cbv at es
   try cbv at em
   try have m1:fo zT (Int.ofNat Y1.length) (Int.ofNat XE.length)=true:=by rw[hS.eq,lC];exact decide_eq_true rfl
   try have m2:sT zX 1 n=true:=by rw[hS.le];exact decide_eq_true (by omega)
   try have m3:sT zX n 64=true:=by rw[hS.le];exact decide_eq_true (by omega)
   try cbv at m1
   cbv;repeat' (first|exact hF _ (ak.refl _)|apply bT rfl|apply bF rfl|apply nd rfl|(refine tT rfl ?_;cbv)|(refine tF rfl ?_;cbv)|(refine⟨_,hS.call hR,?_⟩;cbv)|(refine⟨_,hS.call cC,?_⟩;cbv)|(refine⟨_,hS.call cC0,?_⟩;cbv)|(refine⟨_,hS.call cb,?_⟩;cbv)|(refine⟨_,hS.call cr,?_⟩;cbv)|(refine⟨_,hS.call ci,?_⟩;cbv)|(refine⟨_,hS.call cq,?_⟩;cbv)|(refine⟨_,hS.call cA,?_⟩;cbv)|(refine⟨_,hS.call cB,?_⟩;cbv)|(refine⟨_,hS.call ct,?_⟩;cbv)|(refine⟨_,hS.call (cU0 _ _ _ _ _ _ _ _ _ _ _),?_⟩;cbv)|(refine⟨_,hS.call (Uc _ _ _ _ _ _ _ _ _ _ _ _ _ _),?_⟩;cbv)|(simp only[es];cbv)|(simp only[em];cbv)|(refine tT m1 ?_;cbv)|(refine tT m2 ?_;cbv)|(refine tT m3 ?_;cbv)|(refine⟨fun _=>?_,fun _=>?_⟩<;>cbv))
theorem mo.right {k:Int} {aG:List (List T2)} {C:List (List (List T2))} {q:jC} {N:Int} {E D:List (List T2)} (h:mo E.length k aG C q) (hK:NM N E D) (Bb:2<=N) :
  ah Tryz.prog 20 [.val (.agg (fT N (.aa false (an E)) (.aa false (an D)) k (.aa false (an aG)) (.aa false (di C)) q))] ⟨[.val (tb true)],[none]⟩:=by
 have c:=h.formed hK Bb;clear h hK;cases q;unfold fT;simp only[cT,eT,BW.row]at c ⊢;generalize an E=XE,an D=XD,an aG=XC,di C=XT at *;refine ar aj mixed [.val] Tryz.func20 rfl rfl (by kernel_rfl) ?_;intros;rename_i A L F hS hF;cbv;refine⟨_,hS.call c,?_⟩;cbv;exact hF _ (ak.refl _)
end Go.Proofs.YtekefilngojelaaGreat
end
