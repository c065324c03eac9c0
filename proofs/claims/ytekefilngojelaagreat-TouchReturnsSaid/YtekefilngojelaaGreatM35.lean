/- A part of the proof. -/
import Derived.Test.YtekefilngojelaaGreatM18
import Derived.Test.YtekefilngojelaaGreatM25
import Derived.Test.YtekefilngojelaaGreatM34
set_option maxHeartbeats 0
set_option maxRecDepth 100000
set_option linter.unusedVariables false
set_option linter.unusedSimpArgs false
section
namespace Go.Proofs.YtekefilngojelaaGreat
open Go Go.Abs Go.Abs.M Go.Proofs
theorem aW.Uq {c:Bool} {l k:List Tree} (h:kh l k):aW (.aa c (l.map fun t=>[t])) (.aa false (k.map fun t=>[t])):=by
 obtain⟨g1,g2⟩:=kh.get h;have key:∀(i j:Nat) (t':Tree),fg (k.map fun t=>[t]) i j=some t'->∃t,fg (l.map fun t=>[t]) i j=some t/\aW t t':=by
  intro i j t' h;unfold fg at h ⊢;obtain⟨r,h1,h2⟩:=Option.bind_eq_some_iff.1 h;rw[List.getElem?_map]at h1;obtain⟨o,h3,rfl⟩:=Option.map_eq_some_iff.1 h1;obtain⟨t,h4,h5⟩:=g2 i o h3;cases j with
  | zero=>simp at h2;subst h2;exact⟨t,by rw[List.getElem?_map,h4];rfl,h5⟩
  | succ j=>simp at h2
 refine .aa c false _ _ (fun i j=>(fg (l.map fun t=>[t]) i j).getD (.v undef)) (fun h=>by cases h) (by simp[g1]) (fun n h r hr=>?_) (fun i j t' h=>?_) (fun i j t' h=>?_)
 ·obtain⟨o,ho,rfl⟩:=List.mem_map.1 hr
  cases l with
  | nil=>cases k with
   | nil=>cases ho
   | cons _ _=>cases g1
  | cons x l=>exact h [x] (by simp)
 ·obtain⟨t,h1,h2⟩:=key i j t' h
  rw[h1];rfl
 ·obtain⟨t,h1,h2⟩:=key i j t' h
  show aW ((fg (l.map fun t=>[t]) i j).getD _) t'
  rw[h1];exact h2
theorem QS (N mask:Int) (D C:Tree) (q:jC) :
  ah Tryz.prog 8 [.val (.agg (fT N (.aa false []) D 12 (.aa false []) C q)),.val (ti .u8 mask)] ⟨[.val (.agg (fT N (.aa false []) D 12 (.aa false []) C q))],[none,none]⟩:=by
 unfold fT;refine ep aj mixed [.val] Tryz.func8 rfl rfl (by kernel_rfl) ?_;intros;rename_i A L F hS hF;cbv;repeat (first|(refine tT rfl ?_;cbv)|(refine tF rfl ?_;cbv)|(refine nd rfl ?_;cbv))
 refine fm aj mixed hS (1) ?_;cbv;repeat (first|apply bT rfl|apply bF rfl|apply nd rfl|(refine tT rfl ?_;cbv)|(refine tF rfl ?_;cbv))
 exact hF _ (ak.refl _)
theorem QT (N mask:Int) (D:Tree) (e0:List T2) (C:List (List (List T2))) (hC:C.length<=3) (hr:∀r∈C,r.length=1) (q:jC) :
  ah Tryz.prog 8 [.val (.agg (fT N (.aa false (an [e0])) D 12 (.aa false []) (.aa false (di C)) q)),.val (ti .u8 mask)] ⟨[.val (.agg (fT N (.aa false (an [e0])) D 12 (.aa false []) (.aa false (di (C.map (G6 (sJ mask 0) (sJ mask 1))))) q))],[none,none]⟩:=by
 unfold fT;have z1:aW (.aa false [[.aa true []]]) (.aa false [[.aa false []]]):=gS [none] false;have zA:aW (.aa false [[.aa false [[.aa true []]]]]) (.aa false [[.aa false [[.aa false []]]]]):=aW.Uq (l:=[_]) (k:=[_]) ⟨z1,trivial⟩;have zB:aW (.aa false [[.aa false [[.aa true []]]],[.aa false [[.aa true []]]]]) (.aa false [[.aa false [[.aa false []]]],[.aa false [[.aa false []]]]]):=aW.Uq (l:=[_,_]) (k:=[_,_]) ⟨z1,z1,trivial⟩
 have zC:aW (.aa false [[.aa false [[.aa true []]]],[.aa false [[.aa true []]]],[.aa false [[.aa true []]]]]) (.aa false [[.aa false [[.aa false []]]],[.aa false [[.aa false []]]],[.aa false [[.aa false []]]]]):=aW.Uq (l:=[_,_,_]) (k:=[_,_,_]) ⟨z1,z1,z1,trivial⟩;obtain rfl|⟨a0,rfl⟩|⟨a0,b0,rfl⟩|⟨a0,b0,c0,rfl⟩:C=[]∨(∃a0,C=[[a0]])∨(∃a0 b0,C=[[a0],[b0]])∨(∃a0 b0 c0,C=[[a0],[b0],[c0]]):=by
  match C,hC,hr with
  | [],_,_=>simp
  | [[a0]],_,_=>simp
  | [[a0],[b0]],_,_=>simp
  | [[a0],[b0],[c0]],_,_=>simp
  | []::_,_,h=>simp at h
  | (_::_::_)::_,_,h=>simp at h
  | [_] :: []::_,_,h=>simp at h
  | [_]::(_::_::_)::_,_,h=>simp at h
  | [_] :: [_] :: []::_,_,h=>simp at h
  | [_] :: [_]::(_::_::_)::_,_,h=>simp at h
  | _::_::_::_::_,h,_=>simp at h
 all_goals
  cases Ex:sJ mask 0
  all_goals as_aux_lemma=>
   simp only[G6,an,di,List.map_cons,List.map_nil,if_true,if_false,Bool.false_eq_true,show aV []=[] from rfl];generalize aV=T at *;refine ep aj mixed [.val] Tryz.func8 rfl rfl (by kernel_rfl) fun _ _ _ _ _ zJ _ zM _ _ _ _ zT _ _ _ _ _ _ _ _ _ _ _ _ _ _ _ _ _ _ _ _ _ A L F hS hF=>?_
   have f0:fo zT (bJ zJ (zM .u8 mask (Int.ofNat 0)) 2) 0=!sJ mask 0:=by rw[hS.eq,hS.rem,hS.shr];unfold sJ;rw[Bool.not_not];rfl
   rw[Ex]at f0;cbv;repeat (first|(refine tT rfl ?_;cbv)|(refine tF rfl ?_;cbv)|(refine nd rfl ?_;cbv))
   refine fm aj mixed hS (2) ?_;cbv;repeat (first|apply bT rfl|apply bF rfl|apply nd rfl|(refine tT rfl ?_;cbv)|(refine tF rfl ?_;cbv)|(refine tT f0 ?_;cbv)|(refine tF f0 ?_;cbv)|(refine fm aj mixed hS (5) ?_;cbv))
   first|exact hF _ (ak.refl _)|exact gX hF (by simp[je,kh,aW.refl,zA,zB,zC])
end Go.Proofs.YtekefilngojelaaGreat
end
