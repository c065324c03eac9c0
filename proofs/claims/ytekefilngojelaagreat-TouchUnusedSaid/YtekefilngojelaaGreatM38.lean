/-
  A part of the proof: TyE23t.
-/
import Derived.Test.YtekefilngojelaaGreatM18
import Derived.Test.YtekefilngojelaaGreatM28
import Derived.Test.YtekefilngojelaaGreatM37
set_option maxHeartbeats 0
set_option maxRecDepth 100000
set_option linter.unusedVariables false
set_option linter.unusedSimpArgs false
set_option linter.unusedSectionVars false
section
namespace Go.Proofs.YtekefilngojelaaGreat
open Go Go.Abs Go.Abs.M Go.Proofs
theorem NI (N mask:Int) (D:Tree) (e0 e1:List T2) (C:List (List (List T2))) (hC:C.length<=3) (hr:∀r∈C,r.length=2) (q:ny) :
  aA Tryz.prog 8 [.val (.agg (fT N (.aa false (aQ [e0,e1])) D 12 (.aa false []) (.aa false (df C)) q)),.val (ti .u8 mask)] ⟨[.val (.agg (fT N (.aa false (aQ [e0,e1])) D 12 (.aa false []) (.aa false (df (C.map (IV (nV mask 0) (nV mask 1))))) q))],[none,none]⟩:=by
 unfold fT;have z2:∀p,ab (.aa false [[.aa true []],[.aa false (bo p)]]) (.aa false [[.aa false []],[.aa false (bo p)]]):=fun p=>gk [none,some p] false
 have z3:∀p,ab (.aa false [[.aa false (bo p)],[.aa true []]]) (.aa false [[.aa false (bo p)],[.aa false []]]):=fun p=>gk [some p,none] false
 have z4:ab (.aa false [[.aa true []],[.aa true []]]) (.aa false [[.aa false []],[.aa false []]]):=gk [none,none] false;have q1:∀ {a b:Tree},ab a b->ab (.aa false [[a]]) (.aa false [[b]]):=fun h=>ab.QW (l:=[_]) (k:=[_]) ⟨h,trivial⟩
 have q2:∀ {a b c d:Tree},ab a b->ab c d->ab (.aa false [[a],[c]]) (.aa false [[b],[d]]):=fun h h'=>ab.QW (l:=[_,_]) (k:=[_,_]) ⟨h,h',trivial⟩
 have q3:∀ {a b c d e f:Tree},ab a b->ab c d->ab e f->ab (.aa false [[a],[c],[e]]) (.aa false [[b],[d],[f]]):=fun h h' E4=>ab.QW (l:=[_,_,_]) (k:=[_,_,_]) ⟨h,h',E4,trivial⟩
 have zA2:=fun p=>q1 (z2 p)
 have zA3:=fun p=>q1 (z3 p)
 have zA4:=q1 z4;have zB2:=fun p p'=>q2 (z2 p) (z2 p')
 have zB3:=fun p p'=>q2 (z3 p) (z3 p')
 have zB4:=q2 z4 z4;have zC2:=fun p p' p''=>q3 (z2 p) (z2 p') (z2 p'')
 have zC3:=fun p p' p''=>q3 (z3 p) (z3 p') (z3 p'')
 have zC4:=q3 z4 z4 z4;clear q1 q2 q3 z2 z3 z4;obtain rfl|⟨a0,a1,rfl⟩|⟨a0,a1,b0,b1,rfl⟩|⟨a0,a1,b0,b1,c0,c1,rfl⟩:C=[]∨(∃a0 a1,C=[[a0,a1]])∨(∃a0 a1 b0 b1,C=[[a0,a1],[b0,b1]])∨(∃a0 a1 b0 b1 c0 c1,C=[[a0,a1],[b0,b1],[c0,c1]]):=by
  match C,hC,hr with
  | [],_,_=>simp
  | [[a0,a1]],_,_=>simp
  | [[a0,a1],[b0,b1]],_,_=>simp
  | [[a0,a1],[b0,b1],[c0,c1]],_,_=>simp
  | []::_,_,h=>simp at h
  | [_]::_,_,h=>simp at h
  | (_::_::_::_)::_,_,h=>simp at h
  | [_,_] :: []::_,_,h=>simp at h
  | [_,_] :: [_]::_,_,h=>simp at h
  | [_,_]::(_::_::_::_)::_,_,h=>simp at h
  | [_,_] :: [_,_] :: []::_,_,h=>simp at h
  | [_,_] :: [_,_] :: [_]::_,_,h=>simp at h
  | [_,_] :: [_,_]::(_::_::_::_)::_,_,h=>simp at h
  | _::_::_::_::_,h,_=>simp at h
 all_goals
  cases Cq:nV mask 0<;>cases tX:nV mask 1
  all_goals as_aux_lemma=>
   simp only[IV,aQ,df,List.map_cons,List.map_nil,if_true,if_false,Bool.false_eq_true,show bo []=[] from rfl];generalize bo=T at *;refine je aD mixed [.val] Tryz.func8 rfl rfl (by kernel_rfl) fun zD zE zG zH zI zJ zK zL zM zN zO zR zS zT zU zV zX zg zh zj zu zz aI aH ak aq au aM aN ay aw aL ar zW bc A L F hS hF=>?_
   have f0:Bd zS (uc zJ (zL .u8 mask (Int.ofNat 0)) 2) 0=!nV mask 0:=by rw[hS.eq,hS.rem,hS.shr];unfold nV;rw[Bool.not_not];rfl
   rw[Cq]at f0;have f1:Bd zS (uc zJ (zL .u8 mask (Int.ofNat 1)) 2) 0=!nV mask 1:=by rw[hS.eq,hS.rem,hS.shr];unfold nV;rw[Bool.not_not];rfl
   rw[tX]at f1;cbv;repeat (first|(refine tT rfl ?_;cbv)|(refine tF rfl ?_;cbv)|(refine nd rfl ?_;cbv))
   refine cX aD mixed hS (3) ?_;cbv;repeat (first|refine bT rfl ?_|refine bF rfl ?_|refine nd rfl ?_|(refine tT rfl ?_;cbv)|(refine tF rfl ?_;cbv)|(refine tT f0 ?_;cbv)|(refine tF f0 ?_;cbv)|(refine tT f1 ?_;cbv)|(refine tF f1 ?_;cbv)|(refine cX aD mixed hS (5) ?_;cbv))
   first|exact hF _ (aS.refl _)|exact bE hF (by simp[iI,jY,ab.refl,zA2,zA3,zA4,zB2,zB3,zB4,zC2,zC3,zC4])
end Go.Proofs.YtekefilngojelaaGreat
end
