/- A part. -/
import Derived.Test.YtekefilngojelaaGreatM15
import Derived.Test.YtekefilngojelaaGreatM22
import Derived.Test.YtekefilngojelaaGreatM32
set_option maxHeartbeats 0
set_option maxRecDepth 100000
set_option linter.unusedVariables false
set_option linter.unusedSimpArgs false
section
namespace Go.Proofs.YtekefilngojelaaGreat
open Go Go.Abs Go.Abs.M Go.Proofs
theorem QD (N mask:Int) (D:Tree) (e0 e1:List T2) (C:fi) (hC:C.length<=3) (hr:∀r∈C,r.length=2) (q:jJ) :
  aH 8 [.val (.agg (fT N (.aa false (aj [e0,e1])) D 12 (.aa false []) (.aa false (dL C)) q)),.val (ti .u8 mask)] ⟨[.val (.agg (fT N (.aa false (aj [e0,e1])) D 12 (.aa false []) (.aa false (dL (C.map (GU (sS mask 0) (sS mask 1))))) q))],[none,none]⟩:=by
 unfold fT;have z2:∀p,aY (.aa false [[.aa true []],[.aa false (aP p)]]) (.aa false [[.aa false []],[.aa false (aP p)]]):=fun p=>g7 [none,some p] false
 have z3:∀p,aY (.aa false [[.aa false (aP p)],[.aa true []]]) (.aa false [[.aa false (aP p)],[.aa false []]]):=fun p=>g7 [some p,none] false
 have z4:aY (.aa false [[.aa true []],[.aa true []]]) (.aa false [[.aa false []],[.aa false []]]):=g7 [none,none] false;have q1:∀ {a b:Tree},aY a b->aY (.aa false [[a]]) (.aa false [[b]]):=fun h=>aY.T1 (l:=[_]) (k:=[_]) ⟨h,trivial⟩
 have q2:∀ {a b c d:Tree},aY a b->aY c d->aY (.aa false [[a],[c]]) (.aa false [[b],[d]]):=fun h h'=>aY.T1 (l:=[_,_]) (k:=[_,_]) ⟨h,h',trivial⟩
 have q3:∀ {a b c d e f:Tree},aY a b->aY c d->aY e f->aY (.aa false [[a],[c],[e]]) (.aa false [[b],[d],[f]]):=fun h h' Hj=>aY.T1 (l:=[_,_,_]) (k:=[_,_,_]) ⟨h,h',Hj,trivial⟩
 have zA2:=fun p=>q1 (z2 p)
 have zA3:=fun p=>q1 (z3 p)
 have zA4:=q1 z4;have zB2:=fun p p'=>q2 (z2 p) (z2 p')
 have zB3:=fun p p'=>q2 (z3 p) (z3 p')
 have zB4:=q2 z4 z4;have zC2:=fun p p' p''=>q3 (z2 p) (z2 p') (z2 p'')
 have zC3:=fun p p' p''=>q3 (z3 p) (z3 p') (z3 p'')
 have zC4:=q3 z4 z4 z4;clear q1 q2 q3 z2 z3 z4;obtain rfl|⟨a0,a1,rfl⟩|⟨a0,a1,b0,b1,rfl⟩|⟨a0,a1,b0,b1,c0,c1,rfl⟩:C=[]∨(∃a0 a1,C=[[a0,a1]])∨(∃a0 a1 b0 b1,C=[[a0,a1],[b0,b1]])∨(∃a0 a1 b0 b1 c0 c1,C=[[a0,a1],[b0,b1],[c0,c1]]):=by
  match C,hC,hr with
  | [],_,_=>simp
  | [[a0,a1]],_,_=>simp
  | [[a0,a1],[b0,b1]],_,_=>simp
  | [[a0,a1],[b0,b1],[c0,c1]],_,_=>simp
  | []::_,_,h=>simp at h
  | [_]::_,_,h=>simp at h
  | (_::_::_::_)::_,_,h=>simp at h
  | [_,_] :: []::_,_,h=>simp at h
  | [_,_] :: [_]::_,_,h=>simp at h
  | [_,_]::(_::_::_::_)::_,_,h=>simp at h
  | [_,_] :: [_,_] :: []::_,_,h=>simp at h
  | [_,_] :: [_,_] :: [_]::_,_,h=>simp at h
  | [_,_] :: [_,_]::(_::_::_::_)::_,_,h=>simp at h
  | _::_::_::_::_,h,_=>simp at h
 all_goals
  cases En:sS mask 0<;>cases mZ:sS mask 1
  all_goals as_aux_lemma=>
   simp only[GU,aj,dL,List.map_cons,List.map_nil,if_true,if_false,Bool.false_eq_true,show aP []=[] from rfl];generalize aP=T at *;refine fb ai mixed [.val] Tryz.func8 rfl rfl (by kernel_rfl) fun _ _ _ _ _ zJ _ zM _ _ _ _ zT _ _ _ _ _ _ _ _ _ _ _ _ _ _ _ _ _ _ _ _ _ A L F hS hF=>?_
   have f0:fA zT (bP zJ (zM .u8 mask (Int.ofNat 0)) 2) 0=!sS mask 0:=by rw[hS.eq,hS.rem,hS.shr];unfold sS;rw[Bool.not_not];rfl
   rw[En]at f0;have f1:fA zT (bP zJ (zM .u8 mask (Int.ofNat 1)) 2) 0=!sS mask 1:=by rw[hS.eq,hS.rem,hS.shr];unfold sS;rw[Bool.not_not];rfl
   rw[mZ]at f1;cbv;repeat (first|(apply tT rfl;cbv)|(apply tF rfl;cbv)|(apply nd rfl;cbv))
   refine fm ai mixed hS (3) ?_;cbv;repeat (first|apply bT rfl|apply bF rfl|apply nd rfl|(apply tT rfl;cbv)|(apply tF rfl;cbv)|(apply tT f0;cbv)|(apply tF f0;cbv)|(apply tT f1;cbv)|(apply tF f1;cbv)|(refine fm ai mixed hS (5) ?_;cbv))
   first|exact aC hF|exact ib hF (by simp[jq,ku,aY.refl,zA2,zA3,zA4,zB2,zB3,zB4,zC2,zC3,zC4])
end Go.Proofs.YtekefilngojelaaGreat
end
