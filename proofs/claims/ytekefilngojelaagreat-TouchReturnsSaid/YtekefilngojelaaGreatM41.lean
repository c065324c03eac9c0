/- A part of the proof. -/
import Derived.Test.YtekefilngojelaaGreatM18
import Derived.Test.YtekefilngojelaaGreatM21
import Derived.Test.YtekefilngojelaaGreatM25
set_option maxHeartbeats 0
set_option maxRecDepth 100000
set_option linter.unusedVariables false
set_option linter.unusedSimpArgs false
section
namespace Go.Proofs.YtekefilngojelaaGreat
open Go Go.Abs Go.Abs.M Go.Proofs
theorem mo.rgt {m:Nat} {k:Int} {aG:List (List T2)} {C:List (List (List T2))} {q:jC} {N:Int} {E D:List (List T2)} (h:mo m k aG C q) (hK:NM N E D) (h2:2<=N) :
  ah Tryz.prog 81 [.val (.agg [.v (.int .i64 N),.aa false (an E),.aa false (an D)]),.val (.agg (cT k q))] ⟨[.val (tb true)],[none,none]⟩:=by
 have hN:=hK.n;have cV:=sv N E D hK;rw[show(E.all (En N)&&D.all (En N))=true from by simp[En,h2]]at cV;have cW0:=gQ [] N 12 (by omega) SP.nil.vp;rw[decide_eq_true (Or.inl h2),show aV []=[] from rfl]at cW0;generalize an E=Y1,an D=Y2 at *;rcases h with⟨P,aG,hP,c1,c2⟩|⟨P,C,G,O,Q,Sx,hP,b⟩|⟨n,aG,n1,c1,c2⟩|⟨O1,Lc,C,G,O,Q,Sx,hO,hL,lL,b⟩|⟨cn,cd,C,G,O,Q,Sx,h1,h3,b⟩|⟨cn,cd,cr,C,G,O,Q,Sx,h1,h3,b⟩|⟨Z,C,G,O,Q,Sx,U,U1,At,a,hZ,lZ,b,r⟩|⟨P,Z,Sg,C,G,O,Q,Sx,U,U1,At,a,hP,hZ,lZ,hg,lg,b,r⟩|⟨aG,Sq,c1,c2,s1,s2⟩|⟨P,aG,Sq,hP,c1,c2,s1,s2⟩|⟨Lc,C,hL,lL,hC⟩|⟨cn,C,G,O,h1,b0⟩|⟨cn,Xs,Bs,h1,x1,x2,b1,b2⟩
 all_goals
  simp only[cT,jL]
  try have cW:=gQ P N 12 (by omega) hP.vp
  try rw[decide_eq_true (Or.inl h2)]at cW
  try have cO:=sw O1 hO
  try have cF:=jD Lc N (by omega) (fun p hp=>(hL p hp).Vh) (by omega)
  try have lF:(an Lc).length=Lc.length:=nU _
  try have cM:=Lf cn (by omega) (by omega)
  try have cB:=sC Z N (by omega) hZ (by omega)
  try have cS:=Gt Sg hg (by omega)
  try have lS:(DN Sg).length=(oT Z).length:=by rw[DO,DM];exact lg
  try generalize aV P=X1 at *
  try generalize gD O1=X2 at *
  try generalize an Lc=X3 at *
  try generalize DN Sg=X4 at *
  try generalize oT Z=X5 at *
  as_aux_lemma=>
   refine ep aj mixed [.val] Tryz.func81 rfl rfl (by kernel_rfl) ?_;intros;rename_i zT _ _ zX _ _ _ _ _ _ _ _ _ _ _ _ _ _ _ _ _ _ A L F hS hF
   try have m1:sT zX (Int.ofNat X3.length) 64=true:=by rw[hS.le];exact decide_eq_true (by simp only[Int.ofNat_eq_natCast];omega)
   try have m2:fo zT (Int.ofNat X4.length) (Int.ofNat X5.length)=true:=by rw[hS.eq,lS];exact decide_eq_true rfl
   try have m3:sT zX (-1) cd=true:=by rw[hS.le];exact decide_eq_true (by omega)
   try have m4:sT zX cd N=true:=by rw[hS.le];exact decide_eq_true (by omega)
   try have m5:sT zX 0 cr=true:=by rw[hS.le];exact decide_eq_true (by omega)
   try have m6:sT zX cr cd=true:=by rw[hS.le];exact decide_eq_true (by omega)
   try have m7:sT zX cd cn=true:=by rw[hS.le];exact decide_eq_true (by omega)
   try cbv at m1
   try cbv at m2
   cbv;repeat' (first|exact hF _ (ak.refl _)|(refine tT rfl ?_;cbv)|(refine tF rfl ?_;cbv)|(refine nd rfl ?_;cbv)|(refine⟨_,hS.call cV,?_⟩;cbv)|(refine⟨_,hS.call cW,?_⟩;cbv)|(refine⟨_,hS.call cW0,?_⟩;cbv)|(refine⟨_,hS.call cO,?_⟩;cbv)|(refine⟨_,hS.call cF,?_⟩;cbv)|(refine⟨_,hS.call cM,?_⟩;cbv)|(refine⟨_,hS.call cB,?_⟩;cbv)|(refine⟨_,hS.call cS,?_⟩;cbv)|(refine tT m1 ?_;cbv)|(refine tT m2 ?_;cbv)|(refine tT m3 ?_;cbv)|(refine tT m4 ?_;cbv)|(refine tT m5 ?_;cbv)|(refine tT m6 ?_;cbv)|(refine tT m7 ?_;cbv)|exact bn hF (jz m1)|exact bn hF (jz m2)|exact bn hF (jz m4)|exact bn hF (jz m7)|(refine⟨fun _=>?_,fun _=>?_⟩<;>cbv))
end Go.Proofs.YtekefilngojelaaGreat
end
