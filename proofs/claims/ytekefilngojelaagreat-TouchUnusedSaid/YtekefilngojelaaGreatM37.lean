/-
  A part of the proof: TyE3t.
-/
import Derived.Test.YtekefilngojelaaGreatM18
import Derived.Test.YtekefilngojelaaGreatM28
import Derived.Test.YtekefilngojelaaGreatM36
set_option maxHeartbeats 0
set_option maxRecDepth 100000
set_option linter.unusedVariables false
set_option linter.unusedSimpArgs false
set_option linter.unusedSectionVars false
section
namespace Go.Proofs.YtekefilngojelaaGreat
open Go Go.Abs Go.Abs.M Go.Proofs
theorem ab.QW {c:Bool} {l k:List Tree} (h:jY l k):ab (.aa c (l.map fun t=>[t])) (.aa false (k.map fun t=>[t])):=by
 obtain⟨g1,g2⟩:=jY.get h;have key:∀(i j:Nat) (t':Tree),eJ (k.map fun t=>[t]) i j=some t'->∃t,eJ (l.map fun t=>[t]) i j=some t/\ab t t':=by
  intro i j t' h;unfold eJ at h ⊢;obtain⟨r,h1,h2⟩:=Option.bind_eq_some_iff.1 h;rw[List.getElem?_map]at h1;obtain⟨o,h3,rfl⟩:=Option.map_eq_some_iff.1 h1;obtain⟨t,h4,h5⟩:=g2 i o h3;cases j with
  | zero=>simp at h2;subst h2;exact⟨t,by rw[List.getElem?_map,h4];rfl,h5⟩
  | succ j=>simp at h2
 refine .aa c false _ _ (fun i j=>(eJ (l.map fun t=>[t]) i j).getD (.v undef)) (fun h=>by cases h) (by simp[g1]) (fun n h r hr=>?_) (fun i j t' h=>?_) (fun i j t' h=>?_)
 ·obtain⟨o,ho,rfl⟩:=List.mem_map.1 hr
  cases l with
  | nil=>cases k with
   | nil=>cases ho
   | cons _ _=>cases g1
  | cons x l=>exact h [x] (by simp)
 ·obtain⟨t,h1,h2⟩:=key i j t' h
  rw[h1];rfl
 ·obtain⟨t,h1,h2⟩:=key i j t' h
  show ab ((eJ (l.map fun t=>[t]) i j).getD _) t'
  rw[h1];exact h2
theorem NG (N mask:Int) (D:Tree) (C:Tree) (q:ny) :
  aA Tryz.prog 8 [.val (.agg (fT N (.aa false []) D 12 (.aa false []) C q)),.val (ti .u8 mask)] ⟨[.val (.agg (fT N (.aa false []) D 12 (.aa false []) C q))],[none,none]⟩:=by
 unfold fT;refine je aD mixed [.val] Tryz.func8 rfl rfl (by kernel_rfl) fun zD zE zG zH zI zJ zK zL zM zN zO zR zS zT zU zV zX zg zh zj zu zz aI aH ak aq au aM aN ay aw aL ar zW bc A L F hS hF=>?_
 cbv;repeat (first|(refine tT rfl ?_;cbv)|(refine tF rfl ?_;cbv)|(refine nd rfl ?_;cbv))
 refine cX aD mixed hS (1) ?_;cbv;repeat (first|refine bT rfl ?_|refine bF rfl ?_|refine nd rfl ?_|(refine tT rfl ?_;cbv)|(refine tF rfl ?_;cbv))
 exact hF _ (aS.refl _)
theorem NH (N mask:Int) (D:Tree) (e0:List T2) (C:List (List (List T2))) (hC:C.length<=3) (hr:∀r∈C,r.length=1) (q:ny) :
  aA Tryz.prog 8 [.val (.agg (fT N (.aa false (aQ [e0])) D 12 (.aa false []) (.aa false (df C)) q)),.val (ti .u8 mask)] ⟨[.val (.agg (fT N (.aa false (aQ [e0])) D 12 (.aa false []) (.aa false (df (C.map (IV (nV mask 0) (nV mask 1))))) q))],[none,none]⟩:=by
 unfold fT;have z1:ab (.aa false [[.aa true []]]) (.aa false [[.aa false []]]):=gk [none] false;have zA:ab (.aa false [[.aa false [[.aa true []]]]]) (.aa false [[.aa false [[.aa false []]]]]):=ab.QW (l:=[_]) (k:=[_]) ⟨z1,trivial⟩;have zB:ab (.aa false [[.aa false [[.aa true []]]],[.aa false [[.aa true []]]]]) (.aa false [[.aa false [[.aa false []]]],[.aa false [[.aa false []]]]]):=ab.QW (l:=[_,_]) (k:=[_,_]) ⟨z1,z1,trivial⟩
 have zC:ab (.aa false [[.aa false [[.aa true []]]],[.aa false [[.aa true []]]],[.aa false [[.aa true []]]]]) (.aa false [[.aa false [[.aa false []]]],[.aa false [[.aa false []]]],[.aa false [[.aa false []]]]]):=ab.QW (l:=[_,_,_]) (k:=[_,_,_]) ⟨z1,z1,z1,trivial⟩;obtain rfl|⟨a0,rfl⟩|⟨a0,b0,rfl⟩|⟨a0,b0,c0,rfl⟩:C=[]∨(∃a0,C=[[a0]])∨(∃a0 b0,C=[[a0],[b0]])∨(∃a0 b0 c0,C=[[a0],[b0],[c0]]):=by
  match C,hC,hr with
  | [],_,_=>simp
  | [[a0]],_,_=>simp
  | [[a0],[b0]],_,_=>simp
  | [[a0],[b0],[c0]],_,_=>simp
  | []::_,_,h=>simp at h
  | (_::_::_)::_,_,h=>simp at h
  | [_] :: []::_,_,h=>simp at h
  | [_]::(_::_::_)::_,_,h=>simp at h
  | [_] :: [_] :: []::_,_,h=>simp at h
  | [_] :: [_]::(_::_::_)::_,_,h=>simp at h
  | _::_::_::_::_,h,_=>simp at h
 all_goals
  cases Cq:nV mask 0
  all_goals as_aux_lemma=>
   simp only[IV,aQ,df,List.map_cons,List.map_nil,if_true,if_false,Bool.false_eq_true,show bo []=[] from rfl];generalize bo=T at *;refine je aD mixed [.val] Tryz.func8 rfl rfl (by kernel_rfl) fun zD zE zG zH zI zJ zK zL zM zN zO zR zS zT zU zV zX zg zh zj zu zz aI aH ak aq au aM aN ay aw aL ar zW bc A L F hS hF=>?_
   have f0:Bd zS (uc zJ (zL .u8 mask (Int.ofNat 0)) 2) 0=!nV mask 0:=by rw[hS.eq,hS.rem,hS.shr];unfold nV;rw[Bool.not_not];rfl
   rw[Cq]at f0;cbv;repeat (first|(refine tT rfl ?_;cbv)|(refine tF rfl ?_;cbv)|(refine nd rfl ?_;cbv))
   refine cX aD mixed hS (2) ?_;cbv;repeat (first|refine bT rfl ?_|refine bF rfl ?_|refine nd rfl ?_|(refine tT rfl ?_;cbv)|(refine tF rfl ?_;cbv)|(refine tT f0 ?_;cbv)|(refine tF f0 ?_;cbv)|(refine cX aD mixed hS (5) ?_;cbv))
   first|exact hF _ (aS.refl _)|exact bE hF (by simp[iI,jY,ab.refl,zA,zB,zC])
end Go.Proofs.YtekefilngojelaaGreat
end
