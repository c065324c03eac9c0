/- A part. -/
import Derived.Test.YtekefilngojelaaGreatM18
import Derived.Test.YtekefilngojelaaGreatM25
import Derived.Test.YtekefilngojelaaGreatM35
set_option maxHeartbeats 0
set_option maxRecDepth 100000
set_option linter.unusedVariables false
set_option linter.unusedSimpArgs false
section
namespace Go.Proofs.YtekefilngojelaaGreat
open Go Go.Abs Go.Abs.M Go.Proofs
theorem QU (N mask:Int) (D:Tree) (e0 e1:List T2) (C:List (List (List T2))) (hC:C.length<=3) (hr:∀r∈C,r.length=2) (q:jC) :
  ah Tryz.prog 8 [.val (.agg (fT N (.aa false (an [e0,e1])) D 12 (.aa false []) (.aa false (di C)) q)),.val (ti .u8 mask)] ⟨[.val (.agg (fT N (.aa false (an [e0,e1])) D 12 (.aa false []) (.aa false (di (C.map (G6 (sJ mask 0) (sJ mask 1))))) q))],[none,none]⟩:=by
 unfold fT;have z2:∀p,aW (.aa false [[.aa true []],[.aa false (aV p)]]) (.aa false [[.aa false []],[.aa false (aV p)]]):=fun p=>gS [none,some p] false
 have z3:∀p,aW (.aa false [[.aa false (aV p)],[.aa true []]]) (.aa false [[.aa false (aV p)],[.aa false []]]):=fun p=>gS [some p,none] false
 have z4:aW (.aa false [[.aa true []],[.aa true []]]) (.aa false [[.aa false []],[.aa false []]]):=gS [none,none] false;have q1:∀ {a b:Tree},aW a b->aW (.aa false [[a]]) (.aa false [[b]]):=fun h=>aW.Uq (l:=[_]) (k:=[_]) ⟨h,trivial⟩
 have q2:∀ {a b c d:Tree},aW a b->aW c d->aW (.aa false [[a],[c]]) (.aa false [[b],[d]]):=fun h h'=>aW.Uq (l:=[_,_]) (k:=[_,_]) ⟨h,h',trivial⟩
 have q3:∀ {a b c d e f:Tree},aW a b->aW c d->aW e f->aW (.aa false [[a],[c],[e]]) (.aa false [[b],[d],[f]]):=fun h h' Hu=>aW.Uq (l:=[_,_,_]) (k:=[_,_,_]) ⟨h,h',Hu,trivial⟩
 have zA2:=fun p=>q1 (z2 p)
 have zA3:=fun p=>q1 (z3 p)
 have zA4:=q1 z4;have zB2:=fun p p'=>q2 (z2 p) (z2 p')
 have zB3:=fun p p'=>q2 (z3 p) (z3 p')
 have zB4:=q2 z4 z4;have zC2:=fun p p' p''=>q3 (z2 p) (z2 p') (z2 p'')
 have zC3:=fun p p' p''=>q3 (z3 p) (z3 p') (z3 p'')
 have zC4:=q3 z4 z4 z4;clear q1 q2 q3 z2 z3 z4;obtain rfl|⟨a0,a1,rfl⟩|⟨a0,a1,b0,b1,rfl⟩|⟨a0,a1,b0,b1,c0,c1,rfl⟩:C=[]∨(∃a0 a1,C=[[a0,a1]])∨(∃a0 a1 b0 b1,C=[[a0,a1],[b0,b1]])∨(∃a0 a1 b0 b1 c0 c1,C=[[a0,a1],[b0,b1],[c0,c1]]):=by
  match C,hC,hr with
  | [],_,_=>simp
  | [[a0,a1]],_,_=>simp
  | [[a0,a1],[b0,b1]],_,_=>simp
  | [[a0,a1],[b0,b1],[c0,c1]],_,_=>simp
  | []::_,_,h=>simp at h
  | [_]::_,_,h=>simp at h
  | (_::_::_::_)::_,_,h=>simp at h
  | [_,_] :: []::_,_,h=>simp at h
  | [_,_] :: [_]::_,_,h=>simp at h
  | [_,_]::(_::_::_::_)::_,_,h=>simp at h
  | [_,_] :: [_,_] :: []::_,_,h=>simp at h
  | [_,_] :: [_,_] :: [_]::_,_,h=>simp at h
  | [_,_] :: [_,_]::(_::_::_::_)::_,_,h=>simp at h
  | _::_::_::_::_,h,_=>simp at h
 all_goals
  cases Ex:sJ mask 0<;>cases mO:sJ mask 1
  all_goals as_aux_lemma=>
   simp only[G6,an,di,List.map_cons,List.map_nil,if_true,if_false,Bool.false_eq_true,show aV []=[] from rfl];generalize aV=T at *;refine ep aj mixed [.val] Tryz.func8 rfl rfl (by kernel_rfl) fun _ _ _ _ _ zJ _ zM _ _ _ _ zT _ _ _ _ _ _ _ _ _ _ _ _ _ _ _ _ _ _ _ _ _ A L F hS hF=>?_
   have f0:fo zT (bJ zJ (zM .u8 mask (Int.ofNat 0)) 2) 0=!sJ mask 0:=by rw[hS.eq,hS.rem,hS.shr];unfold sJ;rw[Bool.not_not];rfl
   rw[Ex]at f0;have f1:fo zT (bJ zJ (zM .u8 mask (Int.ofNat 1)) 2) 0=!sJ mask 1:=by rw[hS.eq,hS.rem,hS.shr];unfold sJ;rw[Bool.not_not];rfl
   rw[mO]at f1;cbv;repeat (first|(refine tT rfl ?_;cbv)|(refine tF rfl ?_;cbv)|(refine nd rfl ?_;cbv))
   refine fm aj mixed hS (3) ?_;cbv;repeat (first|apply bT rfl|apply bF rfl|apply nd rfl|(refine tT rfl ?_;cbv)|(refine tF rfl ?_;cbv)|(refine tT f0 ?_;cbv)|(refine tF f0 ?_;cbv)|(refine tT f1 ?_;cbv)|(refine tF f1 ?_;cbv)|(refine fm aj mixed hS (5) ?_;cbv))
   first|exact hF _ (ak.refl _)|exact gX hF (by simp[je,kh,aW.refl,zA2,zA3,zA4,zB2,zB3,zB4,zC2,zC3,zC4])
end Go.Proofs.YtekefilngojelaaGreat
end
