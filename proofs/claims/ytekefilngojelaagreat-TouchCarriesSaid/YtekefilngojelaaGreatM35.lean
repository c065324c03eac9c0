/- A part. -/
import Derived.Test.YtekefilngojelaaGreatM15
import Derived.Test.YtekefilngojelaaGreatM18
import Derived.Test.YtekefilngojelaaGreatM22
set_option maxHeartbeats 0
set_option maxRecDepth 100000
set_option linter.unusedVariables false
set_option linter.unusedSimpArgs false
section
namespace Go.Proofs.YtekefilngojelaaGreat
open Go Go.Abs Go.Abs.M Go.Proofs
theorem kf.rgt {m:Nat} {k:Int} {aG:aS} {C:fi} {q:jJ} {N:Int} {E D:aS} (h:kf m k aG C q) (hK:Ov N E D) (h2:2<=N) :
  aH 81 [.val (.agg [.v (.int .i64 N),.aa false (aj E),.aa false (aj D)]),.val (.agg (cT k q))] ⟨[.val (tb true)],[none,none]⟩:=by
 have hN:=hK.n;have cV:=sD N E D hK;rw[show(E.all (Ei N)&&D.all (Ei N))=true from by simp[Ei,h2]]at cV;have cW0:=gY [] N 12 (by omega) SP.nil.vp;rw[decide_eq_true (Or.inl h2),show aP []=[] from rfl]at cW0;generalize aj E=Y1,aj D=Y2 at *;rcases h with⟨P,aG,hP,c1,c2⟩|⟨P,C,G,O,Q,Sx,hP,b⟩|⟨n,aG,n1,c1,c2⟩|⟨O1,Lc,C,G,O,Q,Sx,hO,hL,lL,b⟩|⟨cn,cd,C,G,O,Q,Sx,h1,h3,b⟩|⟨cn,cd,cr,C,G,O,Q,Sx,h1,h3,b⟩|⟨Z,C,G,O,Q,Sx,U,U1,At,a,hZ,lZ,b,r⟩|⟨P,Z,Sg,C,G,O,Q,Sx,U,U1,At,a,hP,hZ,lZ,hg,lg,b,r⟩|⟨aG,Sq,c1,c2,s1,s2⟩|⟨P,aG,Sq,hP,c1,c2,s1,s2⟩|⟨Lc,C,hL,lL,hC⟩|⟨cn,C,G,O,h1,b0⟩|⟨cn,Xs,Bs,h1,x1,x2,b1,b2⟩
 all_goals
  simp only[cT,kE]
  try have cW:=gY P N 12 (by omega) hP.vp
  try rw[decide_eq_true (Or.inl h2)]at cW
  try have cO:=sG O1 hO
  try have cF:=jL Lc N (by omega) (fun p hp=>(hL p hp).UN) (by omega)
  try have lF:(aj Lc).length=Lc.length:=lB _
  try have cM:=KR cn (by omega) (by omega)
  try have cB:=sL Z N (by omega) hZ (by omega)
  try have cS:=Gb Sg hg (by omega)
  try have lS:(F9 Sg).length=(uk Z).length:=by rw[DN,DM];exact lg
  try generalize aP P=X1 at *
  try generalize iE O1=X2 at *
  try generalize aj Lc=X3 at *
  try generalize F9 Sg=X4 at *
  try generalize uk Z=X5 at *
  as_aux_lemma=>
   refine fb ai mixed [.val] Tryz.func81 rfl rfl (by kernel_rfl) ?_;intros;rename_i zT _ _ zX _ _ _ _ _ _ _ _ _ _ _ _ _ _ _ _ _ _ A L F hS hF
   try have m1:sY zX (Int.ofNat X3.length) 64=true:=dT (hS.le ..) (by simp only[Int.ofNat_eq_natCast];omega)
   try have m2:fA zT (Int.ofNat X4.length) (Int.ofNat X5.length)=true:=by rw[hS.eq,lS];exact decide_eq_true rfl
   try have m3:sY zX (-1) cd=true:=dT (hS.le ..) (by omega)
   try have m4:sY zX cd N=true:=dT (hS.le ..) (by omega)
   try have m5:sY zX 0 cr=true:=dT (hS.le ..) (by omega)
   try have m6:sY zX cr cd=true:=dT (hS.le ..) (by omega)
   try have m7:sY zX cd cn=true:=dT (hS.le ..) (by omega)
   try cbv at m1
   try cbv at m2
   cbv;repeat' (first|exact aC hF|(apply tT rfl;cbv)|(apply tF rfl;cbv)|(apply nd rfl;cbv)|(refine hS.cl cV ?_;cbv)|(refine hS.cl cW ?_;cbv)|(refine hS.cl cW0 ?_;cbv)|(refine hS.cl cO ?_;cbv)|(refine hS.cl cF ?_;cbv)|(refine hS.cl cM ?_;cbv)|(refine hS.cl cB ?_;cbv)|(refine hS.cl cS ?_;cbv)|(apply tT m1;cbv)|(apply tT m2;cbv)|(apply tT m3;cbv)|(apply tT m4;cbv)|(apply tT m5;cbv)|(apply tT m6;cbv)|(apply tT m7;cbv)|exact bc hF (jf m1)|exact bc hF (jf m2)|exact bc hF (jf m4)|exact bc hF (jf m7)|(refine⟨fun _=>?_,fun _=>?_⟩<;>cbv))
end Go.Proofs.YtekefilngojelaaGreat
end
