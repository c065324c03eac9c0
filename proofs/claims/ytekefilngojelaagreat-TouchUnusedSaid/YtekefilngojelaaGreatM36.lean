/-
  A part of the proof: TyC3t.
-/
import Derived.Test.YtekefilngojelaaGreatM18
import Derived.Test.YtekefilngojelaaGreatM28
set_option maxHeartbeats 0
set_option maxRecDepth 100000
set_option linter.unusedVariables false
set_option linter.unusedSimpArgs false
set_option linter.unusedSectionVars false
section
namespace Go.Proofs.YtekefilngojelaaGreat
open Go Go.Abs Go.Abs.M Go.Proofs
def nV (mask:Int) (i:Nat):Bool:=!decide ((mask.fdiv (2^(Min.min i 8))).tmod 2=0)
def IV (b c:Bool):List (List T2)->List (List T2)
 | [p]=>[if b=true then [] else p]
 | [p,q]=>[if b=true then [] else p,if c=true then [] else q]
 | l=>l
theorem Cb (b c:Bool) (l:List (List T2)):(IV b c l).length=l.length:=by unfold IV;split<;>rfl
theorem NF (N k mask:Int) (E:List (List T2)) (hE:E.length<=2) (D C:Tree) (hk:k≠12) (bD:List (List T2)) (hc:bD=[]∨bD.length=E.length) (q:ny) :
  aA Tryz.prog 8 [.val (.agg (fT N (.aa false (aQ E)) D k (.aa false (aQ bD)) C q)),.val (ti .u8 mask)] ⟨[.val (.agg (fT N (.aa false (aQ E)) D k (.aa false (aQ (IV (nV mask 0) (nV mask 1) bD))) C q))],[none,none]⟩:=by
 unfold fT;have z1:ab (.aa false [[.aa true []]]) (.aa false [[.aa false []]]):=gk [none] false;have z2:∀p,ab (.aa false [[.aa true []],[.aa false (bo p)]]) (.aa false [[.aa false []],[.aa false (bo p)]]):=fun p=>gk [none,some p] false
 have z3:∀p,ab (.aa false [[.aa false (bo p)],[.aa true []]]) (.aa false [[.aa false (bo p)],[.aa false []]]):=fun p=>gk [some p,none] false
 have z4:ab (.aa false [[.aa true []],[.aa true []]]) (.aa false [[.aa false []],[.aa false []]]):=gk [none,none] false;have hs:(E=[]/\bD=[])∨(∃e0,E=[e0]/\bD=[])∨(∃e0 c0,E=[e0]/\bD=[c0])∨(∃e0 e1,E=[e0,e1]/\bD=[])∨(∃e0 e1 c0 c1,E=[e0,e1]/\bD=[c0,c1]):=by
  match E,bD,hE,hc with
  | [],[],_,_=>simp
  | [],_::_,_,h=>simp at h
  | [e0],[],_,_=>simp
  | [e0],[c0],_,_=>simp
  | [e0],_::_::_,_,h=>simp at h
  | [e0,e1],[],_,_=>simp
  | [e0,e1],[c0,c1],_,_=>simp
  | [e0,e1],[_],_,h=>simp at h
  | [e0,e1],_::_::_::_,_,h=>simp at h
  | _::_::_::_,_,h,_=>simp at h
 obtain⟨rfl,rfl⟩|⟨e0,rfl,rfl⟩|⟨e0,c0,rfl,rfl⟩|⟨e0,e1,rfl,rfl⟩|⟨e0,e1,c0,c1,rfl,rfl⟩:=hs
 all_goals
  cases Cq:nV mask 0<;>cases tX:nV mask 1
  all_goals
   simp only[IV,aQ,df,List.map_cons,List.map_nil,if_true,if_false,Bool.false_eq_true,show bo []=[] from rfl];generalize bo=T at *;refine je aD mixed [.val] Tryz.func8 rfl rfl (by kernel_rfl) fun zD zE zG zH zI zJ zK zL zM zN zO zR zS zT zU zV zX zg zh zj zu zz aI aH ak aq au aM aN ay aw aL ar zW bc A L F hS hF=>?_
   have f0:Bd zS (uc zJ (zL .u8 mask (Int.ofNat 0)) 2) 0=!nV mask 0:=by rw[hS.eq,hS.rem,hS.shr];unfold nV;rw[Bool.not_not];rfl
   have f1:Bd zS (uc zJ (zL .u8 mask (Int.ofNat 1)) 2) 0=!nV mask 1:=by rw[hS.eq,hS.rem,hS.shr];unfold nV;rw[Bool.not_not];rfl
   rw[Cq]at f0;rw[tX]at f1;cbv;repeat (first|(refine tT rfl ?_;cbv)|(refine tF rfl ?_;cbv)|(refine nd rfl ?_;cbv))
   refine cX aD mixed hS (4) ?_;cbv;repeat (first|refine bT rfl ?_|refine bF rfl ?_|refine nd rfl ?_|(refine tT rfl ?_;cbv)|(refine tF rfl ?_;cbv)|(refine tT f0 ?_;cbv)|(refine tF f0 ?_;cbv)|(refine tT f1 ?_;cbv)|(refine tF f1 ?_;cbv)|(refine tF ((hS.eq k 12).trans (decide_eq_false hk)) ?_;cbv))
   first|exact hF _ (aS.refl _)|exact bE hF (by simp[iI,jY,ab.refl,z1,z2,z3,z4])
end Go.Proofs.YtekefilngojelaaGreat
end
