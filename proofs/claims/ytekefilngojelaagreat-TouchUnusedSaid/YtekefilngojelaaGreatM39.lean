/-
  A part of the proof: TyF3t.
-/
import Derived.Test.YtekefilngojelaaGreatM35
set_option maxHeartbeats 0
set_option maxRecDepth 100000
set_option linter.unusedVariables false
set_option linter.unusedSimpArgs false
set_option linter.unusedSectionVars false
section
namespace Go.Proofs.YtekefilngojelaaGreat
open Go Go.Abs Go.Abs.M Go.Proofs
theorem LF (x1 x2 x3 y1:Tree) (mask:Int) (E D:List (List T2)) (hE:E.length<=2) (hD:D.length<=1) (k:Int) (h3:k≠3) (bD C ir C':Tree) (q:ny) (p:List T2) (u:Nat->Bool) (YE YD:List (List T2))
  (h:V8 x1 x2 x3 y1 mask E D k bD C ir C' q p false u YE YD) :
  aA Tryz.prog 5 [.val (.agg [x1,x2,x3]),.val (ti .u8 mask),.val (.agg [y1])] ⟨[.val (tb true)],[none,none,none]⟩:=by
 obtain⟨c0,cM,cH,cW,cP,cU,s1,t1,LG,s2,t2,t3⟩:=h;rw[decide_eq_false h3,Bool.false_and]at t2;rw[Bool.false_and]at t1;have iu:eI u 0=[]:=rfl;have EC:eI u (0+1)=if u 0=true then [0] else []:=by cases h:u 0<;>simp[eI,List.range_succ,h]
 have ED:eI u (0+1+1)=if u 0=true then(if u 1=true then [0,1] else [0]) else(if u 1=true then [1] else []):=by cases h:u 0<;>cases h':u 1<;>simp[eI,List.range_succ,h,h']
 have l0:=LG 0;have l1:=LG 1;clear LG;obtain rfl|⟨d0,rfl⟩:D=[]∨∃d,D=[d]:=by
  rcases D with _|⟨d,_|⟨_,_⟩⟩
  ·exact Or.inl rfl
  ·exact Or.inr ⟨d,rfl⟩
  ·simp at hD
 all_goals
  obtain rfl|⟨e0,rfl⟩|⟨e0,e1,rfl⟩:E=[]∨(∃e,E=[e])∨∃e f,E=[e,f]:=by
   rcases E with _|⟨e,_|⟨f,_|⟨_,_⟩⟩⟩
   ·exact Or.inl rfl
   ·exact Or.inr (Or.inl ⟨e,rfl⟩)
   ·exact Or.inr (Or.inr ⟨e,f,rfl⟩)
   ·simp at hE
  ·have wb:u 0=u 0:=rfl
   have nf:u 1=u 1:=rfl
   as_aux_lemma=>
    unfold kT cT fT at *;generalize aQ YE=XY at *;generalize aQ YD=XD at *;simp only[aQ,List.map_cons,List.map_nil,List.cons_append,List.nil_append,List.length_cons,List.length_nil,List.take,List.drop,wb,nf,iu,EC,ED,if_true,if_false,Bool.false_eq_true]at cM cH cU s1 t1 l0 l1 s2 t2 t3 ⊢;clear iu EC ED wb nf;generalize bo=T at *;refine je aD mixed [.val] Tryz.func5 rfl rfl (by kernel_rfl) fun zD zE zG zH zI zJ zK zL zM zN zO zR zS zT zU zV zX zg zh zj zu zz aI aH ak aq au aM aN ay aw aL ar zW bc A L F hS hF=>?_
    cbv;refine⟨_,hS.call (c0),?_⟩;cbv;repeat (first|refine bT rfl ?_|refine bF rfl ?_|refine nd rfl ?_|(refine tT rfl ?_;cbv)|(refine tF rfl ?_;cbv))
    refine⟨_,hS.call (cM),?_⟩;cbv;repeat (first|refine bT rfl ?_|refine bF rfl ?_|refine nd rfl ?_|(refine tT rfl ?_;cbv)|(refine tF rfl ?_;cbv))
    refine⟨_,hS.call (cH),?_⟩;cbv;repeat (first|refine bT rfl ?_|refine bF rfl ?_|refine nd rfl ?_|(refine tT rfl ?_;cbv)|(refine tF rfl ?_;cbv))
    refine⟨_,hS.call (cW),?_⟩;cbv;repeat (first|refine bT rfl ?_|refine bF rfl ?_|refine nd rfl ?_|(refine tT rfl ?_;cbv)|(refine tF rfl ?_;cbv))
    refine⟨_,hS.call (cP),?_⟩;cbv;repeat (first|refine bT rfl ?_|refine bF rfl ?_|refine nd rfl ?_|(refine tT rfl ?_;cbv)|(refine tF rfl ?_;cbv))
    refine⟨_,hS.call (cU),?_⟩;cbv;repeat (first|refine bT rfl ?_|refine bF rfl ?_|refine nd rfl ?_|(refine tT rfl ?_;cbv)|(refine tF rfl ?_;cbv))
    refine⟨_,hS.call (s1),?_⟩;cbv;repeat (first|refine bT rfl ?_|refine bF rfl ?_|refine nd rfl ?_|(refine tT rfl ?_;cbv)|(refine tF rfl ?_;cbv))
    refine⟨_,hS.call (t1),?_⟩;cbv;repeat (first|refine bT rfl ?_|refine bF rfl ?_|refine nd rfl ?_|(refine tT rfl ?_;cbv)|(refine tF rfl ?_;cbv))
    repeat (first|refine bT rfl ?_|refine bF rfl ?_|refine nd rfl ?_|(refine tT rfl ?_;cbv)|(refine tF rfl ?_;cbv))
    refine cX aD mixed hS (4) ?_;cbv;repeat (first|refine bT rfl ?_|refine bF rfl ?_|refine nd rfl ?_|(refine tT rfl ?_;cbv)|(refine tF rfl ?_;cbv)|(refine cX aD mixed hS (4) ?_;cbv)|(refine⟨_,hS.call (l0 (by decide)),?_⟩;cbv)|(refine⟨_,hS.call (l1 (by decide)),?_⟩;cbv))
    refine⟨_,hS.call (s2),?_⟩;cbv;repeat (first|refine bT rfl ?_|refine bF rfl ?_|refine nd rfl ?_|(refine tT rfl ?_;cbv)|(refine tF rfl ?_;cbv))
    refine⟨_,hS.call (t2),?_⟩;cbv;repeat (first|refine bT rfl ?_|refine bF rfl ?_|refine nd rfl ?_|(refine tT rfl ?_;cbv)|(refine tF rfl ?_;cbv))
    refine tF ((hS.eq k 3).trans (decide_eq_false h3)) ?_;cbv;repeat (first|refine bT rfl ?_|refine bF rfl ?_|refine nd rfl ?_|(refine tT rfl ?_;cbv)|(refine tF rfl ?_;cbv))
    refine⟨_,hS.call (t3),?_⟩;cbv;repeat (first|refine bT rfl ?_|refine bF rfl ?_|refine nd rfl ?_|(refine tT rfl ?_;cbv)|(refine tF rfl ?_;cbv))
    exact hF _ (aS.refl _)
  ·cases wb:u 0
   all_goals
    have nf:u 1=u 1:=rfl
    as_aux_lemma=>
     unfold kT cT fT at *;generalize aQ YE=XY at *;generalize aQ YD=XD at *;simp only[aQ,List.map_cons,List.map_nil,List.cons_append,List.nil_append,List.length_cons,List.length_nil,List.take,List.drop,wb,nf,iu,EC,ED,if_true,if_false,Bool.false_eq_true]at cM cH cU s1 t1 l0 l1 s2 t2 t3 ⊢;clear iu EC ED wb nf;generalize bo=T at *;refine je aD mixed [.val] Tryz.func5 rfl rfl (by kernel_rfl) fun zD zE zG zH zI zJ zK zL zM zN zO zR zS zT zU zV zX zg zh zj zu zz aI aH ak aq au aM aN ay aw aL ar zW bc A L F hS hF=>?_
     cbv;refine⟨_,hS.call (c0),?_⟩;cbv;repeat (first|refine bT rfl ?_|refine bF rfl ?_|refine nd rfl ?_|(refine tT rfl ?_;cbv)|(refine tF rfl ?_;cbv))
     refine⟨_,hS.call (cM),?_⟩;cbv;repeat (first|refine bT rfl ?_|refine bF rfl ?_|refine nd rfl ?_|(refine tT rfl ?_;cbv)|(refine tF rfl ?_;cbv))
     refine⟨_,hS.call (cH),?_⟩;cbv;repeat (first|refine bT rfl ?_|refine bF rfl ?_|refine nd rfl ?_|(refine tT rfl ?_;cbv)|(refine tF rfl ?_;cbv))
     refine⟨_,hS.call (cW),?_⟩;cbv;repeat (first|refine bT rfl ?_|refine bF rfl ?_|refine nd rfl ?_|(refine tT rfl ?_;cbv)|(refine tF rfl ?_;cbv))
     refine⟨_,hS.call (cP),?_⟩;cbv;repeat (first|refine bT rfl ?_|refine bF rfl ?_|refine nd rfl ?_|(refine tT rfl ?_;cbv)|(refine tF rfl ?_;cbv))
     refine⟨_,hS.call (cU),?_⟩;cbv;repeat (first|refine bT rfl ?_|refine bF rfl ?_|refine nd rfl ?_|(refine tT rfl ?_;cbv)|(refine tF rfl ?_;cbv))
     refine⟨_,hS.call (s1),?_⟩;cbv;repeat (first|refine bT rfl ?_|refine bF rfl ?_|refine nd rfl ?_|(refine tT rfl ?_;cbv)|(refine tF rfl ?_;cbv))
     refine⟨_,hS.call (t1),?_⟩;cbv;repeat (first|refine bT rfl ?_|refine bF rfl ?_|refine nd rfl ?_|(refine tT rfl ?_;cbv)|(refine tF rfl ?_;cbv))
     repeat (first|refine bT rfl ?_|refine bF rfl ?_|refine nd rfl ?_|(refine tT rfl ?_;cbv)|(refine tF rfl ?_;cbv))
     refine cX aD mixed hS (4) ?_;cbv;repeat (first|refine bT rfl ?_|refine bF rfl ?_|refine nd rfl ?_|(refine tT rfl ?_;cbv)|(refine tF rfl ?_;cbv)|(refine cX aD mixed hS (4) ?_;cbv)|(refine⟨_,hS.call (l0 (by decide)),?_⟩;cbv)|(refine⟨_,hS.call (l1 (by decide)),?_⟩;cbv))
     refine⟨_,hS.call (s2),?_⟩;cbv;repeat (first|refine bT rfl ?_|refine bF rfl ?_|refine nd rfl ?_|(refine tT rfl ?_;cbv)|(refine tF rfl ?_;cbv))
     refine⟨_,hS.call (t2),?_⟩;cbv;repeat (first|refine bT rfl ?_|refine bF rfl ?_|refine nd rfl ?_|(refine tT rfl ?_;cbv)|(refine tF rfl ?_;cbv))
     refine tF ((hS.eq k 3).trans (decide_eq_false h3)) ?_;cbv;repeat (first|refine bT rfl ?_|refine bF rfl ?_|refine nd rfl ?_|(refine tT rfl ?_;cbv)|(refine tF rfl ?_;cbv))
     refine⟨_,hS.call (t3),?_⟩;cbv;repeat (first|refine bT rfl ?_|refine bF rfl ?_|refine nd rfl ?_|(refine tT rfl ?_;cbv)|(refine tF rfl ?_;cbv))
     exact hF _ (aS.refl _)
  ·cases wb:u 0<;>cases nf:u 1
   all_goals as_aux_lemma=>
    unfold kT cT fT at *;generalize aQ YE=XY at *;generalize aQ YD=XD at *;simp only[aQ,List.map_cons,List.map_nil,List.cons_append,List.nil_append,List.length_cons,List.length_nil,List.take,List.drop,wb,nf,iu,EC,ED,if_true,if_false,Bool.false_eq_true]at cM cH cU s1 t1 l0 l1 s2 t2 t3 ⊢;clear iu EC ED wb nf;generalize bo=T at *;refine je aD mixed [.val] Tryz.func5 rfl rfl (by kernel_rfl) fun zD zE zG zH zI zJ zK zL zM zN zO zR zS zT zU zV zX zg zh zj zu zz aI aH ak aq au aM aN ay aw aL ar zW bc A L F hS hF=>?_
    cbv;refine⟨_,hS.call (c0),?_⟩;cbv;repeat (first|refine bT rfl ?_|refine bF rfl ?_|refine nd rfl ?_|(refine tT rfl ?_;cbv)|(refine tF rfl ?_;cbv))
    refine⟨_,hS.call (cM),?_⟩;cbv;repeat (first|refine bT rfl ?_|refine bF rfl ?_|refine nd rfl ?_|(refine tT rfl ?_;cbv)|(refine tF rfl ?_;cbv))
    refine⟨_,hS.call (cH),?_⟩;cbv;repeat (first|refine bT rfl ?_|refine bF rfl ?_|refine nd rfl ?_|(refine tT rfl ?_;cbv)|(refine tF rfl ?_;cbv))
    refine⟨_,hS.call (cW),?_⟩;cbv;repeat (first|refine bT rfl ?_|refine bF rfl ?_|refine nd rfl ?_|(refine tT rfl ?_;cbv)|(refine tF rfl ?_;cbv))
    refine⟨_,hS.call (cP),?_⟩;cbv;repeat (first|refine bT rfl ?_|refine bF rfl ?_|refine nd rfl ?_|(refine tT rfl ?_;cbv)|(refine tF rfl ?_;cbv))
    refine⟨_,hS.call (cU),?_⟩;cbv;repeat (first|refine bT rfl ?_|refine bF rfl ?_|refine nd rfl ?_|(refine tT rfl ?_;cbv)|(refine tF rfl ?_;cbv))
    refine⟨_,hS.call (s1),?_⟩;cbv;repeat (first|refine bT rfl ?_|refine bF rfl ?_|refine nd rfl ?_|(refine tT rfl ?_;cbv)|(refine tF rfl ?_;cbv))
    refine⟨_,hS.call (t1),?_⟩;cbv;repeat (first|refine bT rfl ?_|refine bF rfl ?_|refine nd rfl ?_|(refine tT rfl ?_;cbv)|(refine tF rfl ?_;cbv))
    repeat (first|refine bT rfl ?_|refine bF rfl ?_|refine nd rfl ?_|(refine tT rfl ?_;cbv)|(refine tF rfl ?_;cbv))
    refine cX aD mixed hS (4) ?_;cbv;repeat (first|refine bT rfl ?_|refine bF rfl ?_|refine nd rfl ?_|(refine tT rfl ?_;cbv)|(refine tF rfl ?_;cbv)|(refine cX aD mixed hS (4) ?_;cbv)|(refine⟨_,hS.call (l0 (by decide)),?_⟩;cbv)|(refine⟨_,hS.call (l1 (by decide)),?_⟩;cbv))
    refine⟨_,hS.call (s2),?_⟩;cbv;repeat (first|refine bT rfl ?_|refine bF rfl ?_|refine nd rfl ?_|(refine tT rfl ?_;cbv)|(refine tF rfl ?_;cbv))
    refine⟨_,hS.call (t2),?_⟩;cbv;repeat (first|refine bT rfl ?_|refine bF rfl ?_|refine nd rfl ?_|(refine tT rfl ?_;cbv)|(refine tF rfl ?_;cbv))
    refine tF ((hS.eq k 3).trans (decide_eq_false h3)) ?_;cbv;repeat (first|refine bT rfl ?_|refine bF rfl ?_|refine nd rfl ?_|(refine tT rfl ?_;cbv)|(refine tF rfl ?_;cbv))
    refine⟨_,hS.call (t3),?_⟩;cbv;repeat (first|refine bT rfl ?_|refine bF rfl ?_|refine nd rfl ?_|(refine tT rfl ?_;cbv)|(refine tF rfl ?_;cbv))
    exact hF _ (aS.refl _)
end Go.Proofs.YtekefilngojelaaGreat
end
