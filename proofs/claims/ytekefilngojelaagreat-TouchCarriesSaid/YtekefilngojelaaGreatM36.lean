/- A part. -/
import Derived.Test.YtekefilngojelaaGreatM15
import Derived.Test.YtekefilngojelaaGreatM35
set_option maxHeartbeats 0
set_option maxRecDepth 100000
set_option linter.unusedVariables false
set_option linter.unusedSimpArgs false
section
namespace Go.Proofs.YtekefilngojelaaGreat
open Go Go.Abs Go.Abs.M Go.Proofs
def eT (aG:aS) (C:fi) (q:jJ):BO:=⟨q.eN,aj aG,q.G,q.eO,dL C,q.Q,q.Sx,q.r0,q.r1,q.r2,q.r3,q.r4,q.r5,q.r6,q.r7,q.r8,q.r9,q.Ts,q.Wu,q.Wv,q.Ww,q.Wx,q.Wy,q.Yx,q.At,q.Sq,q.X,q.eB⟩
def psn:Abs.Rows->Bool
 | []=>false
 | _::_=>true
theorem Ch (l:Abs.Rows):psn l=decide (0<l.length):=by cases l<;>simp[psn]
def nz:Int->Bool
 | .ofNat 0=>false
 | _=>true
theorem RF (n:Int):nz n=decide (n≠0):=by
 match n with
 | .ofNat 0=>rfl
 | .ofNat (k+1)=>rfl
 | .negSucc k=>rfl
theorem kf.formed {k:Int} {aG:aS} {C:fi} {q:jJ} {N:Int} {E D:aS} (h:kf E.length k aG C q) (hK:Ov N E D) (h2:2<=N) :
  aH 48 [.val (.agg [.v (.int .i64 N),.aa false (aj E),.aa false (aj D)]),.val (.agg (cT k q)),.val (.agg (eT aG C q).row)] ⟨[.val (tb true)],[none,none,none]⟩:=by
 have hN:2<=N/\N<=4:=⟨h2,hK.n.2⟩;have lE:=hK.le;have hR:=h.rgt hK h2;have cC0:=jL [] N hN (by simp) (by simp);rw[show aj []=[] from rfl]at cC0;have lP:(aj E).length=E.length:=lB _;obtain⟨x,hx⟩:=aq (eT aG C q);rw[<-hx];have cU0:=fun N X1 X2 X3 X4 X5 X6 Z1 Z2 Z3 Z4=>xI N 0 0 0 0 0 0 0 0 X1 X2 X3 X4 X5 X6 [] [] [] [] [] [] [] [] [] Z1 Z2 Z3 Z4 _ _ _ _ _ _ _ _ _ _ _ _ (RF _) (Ch _) (Ch _) (Ch _) (Ch _) (Ch _) (Ch _) (Ch _) (Ch _) (Ch _) (Ch _) Ge
 have TH:=fun N X1 X2 X3 X4 X5 X6 Z1 Z2 Z3 Z4 a U U1=>xI N 1 a 0 0 0 0 0 0 X1 X2 X3 X4 X5 X6 U [] U1 [] [] [] [] [] [] Z1 Z2 Z3 Z4 _ _ _ _ _ _ _ _ _ _ _ _ (RF _) (Ch _) (Ch _) (Ch _) (Ch _) (Ch _) (Ch _) (Ch _) (Ch _) (Ch _) (Ch _) (Gf a U U1)
 rcases h with⟨P,aG,hP,c1,c2⟩|⟨P,C,G,O,Q,Sx,hP,b⟩|⟨n,aG,n1,c1,c2⟩|⟨O1,Lc,C,G,O,Q,Sx,hO,hL,lL,b⟩|⟨cn,cd,C,G,O,Q,Sx,h1,h3,b⟩|⟨cn,cd,cr,C,G,O,Q,Sx,h1,h3,b⟩|⟨Z,C,G,O,Q,Sx,U,U1,At,a,hZ,lZ,b,r⟩|⟨P,Z,Sg,C,G,O,Q,Sx,U,U1,At,a,hP,hZ,lZ,hg,lg,b,r⟩|⟨aG,Sq,c1,c2,s1,s2⟩|⟨P,aG,Sq,hP,c1,c2,s1,s2⟩|⟨Lc,C,hL,lL,hC⟩|⟨cn,C,G,O,h1,b0⟩|⟨cn,Xs,Bs,h1,x1,x2,b1,b2⟩
 all_goals
  try have lC:(aj aG).length=(aj E).length:=by rw[lB,lB];exact c1
  try have cC:=jL aG N hN (fun p hp=>(c2 p hp).UN) (by omega)
  try have cq:=yX Sq N hN (fun x hx=>⟨(s1 x hx).1,(s1 x hx).2.UN⟩) (by omega)
  try have cA:=yZ Xs N hN x1 (by omega)
  try have cB:=sL Bs N hN b1 (by omega)
  try have cb:=uX N hN E (aj D) x true G O C Q Sx lE ⟨fun p hp=>(b.s p hp).UN,b.g⟩ b.o b.c.o (fun _=>⟨b.q.o,b.x.o⟩) (by rw[hx];rfl) (by rw[hx];rfl) (by rw[hx];rfl) (by rw[hx];rfl) (by rw[hx];rfl)
  try have cb:=uX N hN E (aj D) x false G O C [] [] lE ⟨fun p hp=>(b0.s p hp).UN,b0.g⟩ b0.o b0.c.o (fun h=>absurd h (by decide)) (by rw[hx];rfl) (by rw[hx];rfl) (by rw[hx];rfl) (by rw[hx];rfl) (by rw[hx];rfl)
  try have cr:=DT 1 a N U U1 (by unfold DO;omega) r.a r.u r.u1 hN
  try unfold cRs at cr
  try have ci:=H7 At r.t (by have:=r.l;omega)
  try have UR:Lc.length=0∨Lc.length=1∨Lc.length=2∨Lc.length=3:=by omega
  try have ct:=j9 C (1+Lc.length*(Lc.length+1)/2) E.length N hN hC.o (by rcases UR with h|h|h|h<;>rw[h]<;>decide) (by omega)
  try have lL2:(aj Lc).length=Lc.length:=lB _
  try have hs:∃i:Int,i=((1+Lc.length*(Lc.length+1)/2:Nat):Int):=⟨_,rfl⟩
  try obtain⟨sI,LH⟩:=hs
  try have hm:∃i:Int,i=(E.length:Int):=⟨_,rfl⟩
  try obtain⟨mI,yY⟩:=hm
  try rw[<-LH,<-yY]at ct
  subst hx;simp only[cT,kE,eT,BO.row,show aj []=[] from rfl,show dL []=[] from rfl]at hR ⊢
  try simp only[kE,eT,BO.row,show aj []=[] from rfl]at cb
  clear hK h2;generalize aj E=XE,aj D=XD at *
  try generalize aP P=X1 at *
  try generalize iE O1=X2 at *
  try generalize aj Lc=X3 at *
  try generalize F9 Sg=X4 at *
  try generalize uk Z=X5 at *
  try generalize aj aG=Y1 at *
  try generalize aj G=Y2 at *
  try generalize iE O=Y3 at *
  try generalize dL C=Y4 at *
  try generalize dL Q=Y5 at *
  try generalize dL Sx=Y6 at *
  try generalize ur U=Y7 at *
  try generalize ur U1=Y8 at *
  try generalize KO At=Y9 at *
  try generalize KQ Sq=Z1 at *
  try generalize Jk Xs=Z2 at *
  try generalize uk Bs=Z3 at *
  as_aux_lemma=>
   refine fb ai mixed [.val] Tryz.func48 rfl rfl (by kernel_rfl) fun zD zE _ zH zI _ _ _ _ _ _ _ zT _ _ zX _ _ _ _ _ _ _ _ _ _ _ _ _ _ _ _ _ _ A L F hS hF=>?_
   try have es:aE zD .i64 (eE zE 1 (aE zD .i64 (xM zI (aE zD .i64 (nM zH (Int.ofNat X3.length) (aE zD .i64 (eE zE (Int.ofNat X3.length) 1)))) 2)))=sI:=by rw[lL2,LH];simp only[hS.add,hS.mul,hS.quo,hS.wrap];rcases UR with h|h|h|h<;>rw[h]<;>decide
   try have em:Int.ofNat XE.length=mI:=by have:=UR;rw[lP,yY];rfl
   try cbv at es
   try cbv at em
   try have m1:fA zT (Int.ofNat Y1.length) (Int.ofNat XE.length)=true:=by rw[hS.eq,lC];exact decide_eq_true rfl
   try have m2:sY zX 1 n=true:=dT (hS.le ..) (by omega)
   try have m3:sY zX n 64=true:=dT (hS.le ..) (by omega)
   try cbv at m1
   cbv;repeat' (first|exact aC hF|apply bT rfl|apply bF rfl|apply nd rfl|(apply tT rfl;cbv)|(apply tF rfl;cbv)|(refine hS.cl hR ?_;cbv)|(refine hS.cl cC ?_;cbv)|(refine hS.cl cC0 ?_;cbv)|(refine hS.cl cb ?_;cbv)|(refine hS.cl cr ?_;cbv)|(refine hS.cl ci ?_;cbv)|(refine hS.cl cq ?_;cbv)|(refine hS.cl cA ?_;cbv)|(refine hS.cl cB ?_;cbv)|(refine hS.cl ct ?_;cbv)|(refine hS.cl (cU0 _ _ _ _ _ _ _ _ _ _ _) ?_;cbv)|(refine hS.cl (TH _ _ _ _ _ _ _ _ _ _ _ _ _ _) ?_;cbv)|(simp only[es];cbv)|(simp only[em];cbv)|(apply tT m1;cbv)|(apply tT m2;cbv)|(apply tT m3;cbv)|(refine⟨fun _=>?_,fun _=>?_⟩<;>cbv))
theorem kf.right {k:Int} {aG:aS} {C:fi} {q:jJ} {N:Int} {E D:aS} (h:kf E.length k aG C q) (hK:Ov N E D) (FG:2<=N) :
  aH 20 [.val (.agg (fT N (.aa false (aj E)) (.aa false (aj D)) k (.aa false (aj aG)) (.aa false (dL C)) q))] ⟨[.val (tb true)],[none]⟩:=by
 have c:=h.formed hK FG;clear h hK;cases q;unfold fT;simp only[cT,eT,BO.row]at c ⊢;generalize aj E=XE,aj D=XD,aj aG=XC,dL C=XT at *;refine an ai mixed [.val] Tryz.func20 rfl rfl (by kernel_rfl) ?_;intros;rename_i A L F hS hF;cbv;refine hS.cl c ?_;cbv;exact aC hF
end Go.Proofs.YtekefilngojelaaGreat
end
