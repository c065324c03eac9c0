/- A part. -/
import Derived.Test.YtekefilngojelaaGreatM15
import Derived.Test.YtekefilngojelaaGreatM22
import Derived.Test.YtekefilngojelaaGreatM31
set_option maxHeartbeats 0
set_option maxRecDepth 100000
set_option linter.unusedVariables false
set_option linter.unusedSimpArgs false
section
namespace Go.Proofs.YtekefilngojelaaGreat
open Go Go.Abs Go.Abs.M Go.Proofs
theorem aY.T1 {c:Bool} {l k:List Tree} (h:ku l k):aY (.aa c (l.map fun t=>[t])) (.aa false (k.map fun t=>[t])):=by
 obtain⟨g1,g2⟩:=ku.get h;have key:∀(i j:Nat) (t':Tree),fo (k.map fun t=>[t]) i j=some t'->∃t,fo (l.map fun t=>[t]) i j=some t/\aY t t':=by
  intro i j t' h;unfold fo at h ⊢;obtain⟨r,h1,h2⟩:=Option.bind_eq_some_iff.1 h;rw[List.getElem?_map]at h1;obtain⟨o,h3,rfl⟩:=Option.map_eq_some_iff.1 h1;obtain⟨t,h4,h5⟩:=g2 i o h3;cases j with
  | zero=>simp at h2;subst h2;exact⟨t,by rw[List.getElem?_map,h4];rfl,h5⟩
  | succ j=>simp at h2
 refine .aa c false _ _ (fun i j=>(fo (l.map fun t=>[t]) i j).getD (.v undef)) (fun h=>by cases h) (by simp[g1]) (fun n h r hr=>?_) (fun i j t' h=>?_) (fun i j t' h=>?_)
 ·obtain⟨o,ho,rfl⟩:=List.mem_map.1 hr
  cases l with
  | nil=>cases k with
   | nil=>cases ho
   | cons _ _=>cases g1
  | cons x l=>exact h [x] (by simp)
 ·obtain⟨t,h1,h2⟩:=key i j t' h
  rw[h1];rfl
 ·obtain⟨t,h1,h2⟩:=key i j t' h
  show aY ((fo (l.map fun t=>[t]) i j).getD _) t'
  rw[h1];exact h2
theorem QA (N mask:Int) (D C:Tree) (q:jJ) :
  aH 8 [.val (.agg (fT N (.aa false []) D 12 (.aa false []) C q)),.val (ti .u8 mask)] ⟨[.val (.agg (fT N (.aa false []) D 12 (.aa false []) C q))],[none,none]⟩:=by
 unfold fT;refine fb ai mixed [.val] Tryz.func8 rfl rfl (by kernel_rfl) ?_;intros;rename_i A L F hS hF;cbv;repeat (first|(apply tT rfl;cbv)|(apply tF rfl;cbv)|(apply nd rfl;cbv))
 refine fm ai mixed hS (1) ?_;cbv;repeat (first|apply bT rfl|apply bF rfl|apply nd rfl|(apply tT rfl;cbv)|(apply tF rfl;cbv))
 exact aC hF
theorem QB (N mask:Int) (D:Tree) (e0:List T2) (C:fi) (hC:C.length<=3) (hr:∀r∈C,r.length=1) (q:jJ) :
  aH 8 [.val (.agg (fT N (.aa false (aj [e0])) D 12 (.aa false []) (.aa false (dL C)) q)),.val (ti .u8 mask)] ⟨[.val (.agg (fT N (.aa false (aj [e0])) D 12 (.aa false []) (.aa false (dL (C.map (GU (sS mask 0) (sS mask 1))))) q))],[none,none]⟩:=by
 unfold fT;have z1:aY (.aa false [[.aa true []]]) (.aa false [[.aa false []]]):=g7 [none] false;have zA:aY (.aa false [[.aa false [[.aa true []]]]]) (.aa false [[.aa false [[.aa false []]]]]):=aY.T1 (l:=[_]) (k:=[_]) ⟨z1,trivial⟩;have zB:aY (.aa false [[.aa false [[.aa true []]]],[.aa false [[.aa true []]]]]) (.aa false [[.aa false [[.aa false []]]],[.aa false [[.aa false []]]]]):=aY.T1 (l:=[_,_]) (k:=[_,_]) ⟨z1,z1,trivial⟩
 have zC:aY (.aa false [[.aa false [[.aa true []]]],[.aa false [[.aa true []]]],[.aa false [[.aa true []]]]]) (.aa false [[.aa false [[.aa false []]]],[.aa false [[.aa false []]]],[.aa false [[.aa false []]]]]):=aY.T1 (l:=[_,_,_]) (k:=[_,_,_]) ⟨z1,z1,z1,trivial⟩;obtain rfl|⟨a0,rfl⟩|⟨a0,b0,rfl⟩|⟨a0,b0,c0,rfl⟩:C=[]∨(∃a0,C=[[a0]])∨(∃a0 b0,C=[[a0],[b0]])∨(∃a0 b0 c0,C=[[a0],[b0],[c0]]):=by
  match C,hC,hr with
  | [],_,_=>simp
  | [[a0]],_,_=>simp
  | [[a0],[b0]],_,_=>simp
  | [[a0],[b0],[c0]],_,_=>simp
  | []::_,_,h=>simp at h
  | (_::_::_)::_,_,h=>simp at h
  | [_] :: []::_,_,h=>simp at h
  | [_]::(_::_::_)::_,_,h=>simp at h
  | [_] :: [_] :: []::_,_,h=>simp at h
  | [_] :: [_]::(_::_::_)::_,_,h=>simp at h
  | _::_::_::_::_,h,_=>simp at h
 all_goals
  cases En:sS mask 0
  all_goals as_aux_lemma=>
   simp only[GU,aj,dL,List.map_cons,List.map_nil,if_true,if_false,Bool.false_eq_true,show aP []=[] from rfl];generalize aP=T at *;refine fb ai mixed [.val] Tryz.func8 rfl rfl (by kernel_rfl) fun _ _ _ _ _ zJ _ zM _ _ _ _ zT _ _ _ _ _ _ _ _ _ _ _ _ _ _ _ _ _ _ _ _ _ A L F hS hF=>?_
   have f0:fA zT (bP zJ (zM .u8 mask (Int.ofNat 0)) 2) 0=!sS mask 0:=by rw[hS.eq,hS.rem,hS.shr];unfold sS;rw[Bool.not_not];rfl
   rw[En]at f0;cbv;repeat (first|(apply tT rfl;cbv)|(apply tF rfl;cbv)|(apply nd rfl;cbv))
   refine fm ai mixed hS (2) ?_;cbv;repeat (first|apply bT rfl|apply bF rfl|apply nd rfl|(apply tT rfl;cbv)|(apply tF rfl;cbv)|(apply tT f0;cbv)|(apply tF f0;cbv)|(refine fm ai mixed hS (5) ?_;cbv))
   first|exact aC hF|exact ib hF (by simp[jq,ku,aY.refl,zA,zB,zC])
end Go.Proofs.YtekefilngojelaaGreat
end
