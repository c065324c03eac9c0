/- A part. -/
import Derived.Test.YtekefilngojelaaGreatM15
import Derived.Test.YtekefilngojelaaGreatM22
set_option maxHeartbeats 0
set_option maxRecDepth 100000
set_option linter.unusedVariables false
set_option linter.unusedSimpArgs false
section
namespace Go.Proofs.YtekefilngojelaaGreat
open Go Go.Abs Go.Abs.M Go.Proofs
def sS (mask:Int) (i:Nat):Bool:=!decide ((mask.fdiv (2^(Min.min i 8))).tmod 2=0)
def GU (b c:Bool):aS->aS
 | [p]=>[if b=true then [] else p]
 | [p,q]=>[if b=true then [] else p,if c=true then [] else q]
 | l=>l
theorem kg (b c:Bool) (l:aS):(GU b c l).length=l.length:=by unfold GU;split<;>rfl
theorem Qy {b c:Bool} {l:aS} {f:List T2->Prop} (h0:f []) (h:∀p∈l,f p):∀p∈GU b c l,f p:=by
 unfold GU;split
 ·intro p hp;rw[List.mem_singleton]at hp;subst hp;split
  ·exact h0
  ·exact h _ (by simp)
 ·intro p hp;simp only[List.mem_cons,List.not_mem_nil,or_false]at hp
  rcases hp with rfl|rfl<;>split<;>first|exact h0|exact h _ (by simp)
 ·exact h
theorem Qz (N k mask:Int) (E:aS) (hE:E.length<=2) (D C:Tree) (hk:k≠12) (aG:aS) (hc:aG=[]∨aG.length=E.length) (q:jJ) :
  aH 8 [.val (.agg (fT N (.aa false (aj E)) D k (.aa false (aj aG)) C q)),.val (ti .u8 mask)] ⟨[.val (.agg (fT N (.aa false (aj E)) D k (.aa false (aj (GU (sS mask 0) (sS mask 1) aG))) C q))],[none,none]⟩:=by
 unfold fT;have z1:aY (.aa false [[.aa true []]]) (.aa false [[.aa false []]]):=g7 [none] false;have z2:∀p,aY (.aa false [[.aa true []],[.aa false (aP p)]]) (.aa false [[.aa false []],[.aa false (aP p)]]):=fun p=>g7 [none,some p] false
 have z3:∀p,aY (.aa false [[.aa false (aP p)],[.aa true []]]) (.aa false [[.aa false (aP p)],[.aa false []]]):=fun p=>g7 [some p,none] false
 have z4:aY (.aa false [[.aa true []],[.aa true []]]) (.aa false [[.aa false []],[.aa false []]]):=g7 [none,none] false;have hs:(E=[]/\aG=[])∨(∃e0,E=[e0]/\aG=[])∨(∃e0 c0,E=[e0]/\aG=[c0])∨(∃e0 e1,E=[e0,e1]/\aG=[])∨(∃e0 e1 c0 c1,E=[e0,e1]/\aG=[c0,c1]):=by
  match E,aG,hE,hc with
  | [],[],_,_=>simp
  | [],_::_,_,h=>simp at h
  | [e0],[],_,_=>simp
  | [e0],[c0],_,_=>simp
  | [e0],_::_::_,_,h=>simp at h
  | [e0,e1],[],_,_=>simp
  | [e0,e1],[c0,c1],_,_=>simp
  | [e0,e1],[_],_,h=>simp at h
  | [e0,e1],_::_::_::_,_,h=>simp at h
  | _::_::_::_,_,h,_=>simp at h
 obtain⟨rfl,rfl⟩|⟨e0,rfl,rfl⟩|⟨e0,c0,rfl,rfl⟩|⟨e0,e1,rfl,rfl⟩|⟨e0,e1,c0,c1,rfl,rfl⟩:=hs
 all_goals
  cases En:sS mask 0<;>cases mZ:sS mask 1
  all_goals
   simp only[GU,aj,dL,List.map_cons,List.map_nil,if_true,if_false,Bool.false_eq_true,show aP []=[] from rfl];generalize aP=T at *;refine fb ai mixed [.val] Tryz.func8 rfl rfl (by kernel_rfl) fun _ _ _ _ _ zJ _ zM _ _ _ _ zT _ _ _ _ _ _ _ _ _ _ _ _ _ _ _ _ _ _ _ _ _ A L F hS hF=>?_
   have f0:fA zT (bP zJ (zM .u8 mask (Int.ofNat 0)) 2) 0=!sS mask 0:=by rw[hS.eq,hS.rem,hS.shr];unfold sS;rw[Bool.not_not];rfl
   have f1:fA zT (bP zJ (zM .u8 mask (Int.ofNat 1)) 2) 0=!sS mask 1:=by rw[hS.eq,hS.rem,hS.shr];unfold sS;rw[Bool.not_not];rfl
   rw[En]at f0;rw[mZ]at f1;cbv;repeat (first|(apply tT rfl;cbv)|(apply tF rfl;cbv)|(apply nd rfl;cbv))
   refine fm ai mixed hS (4) ?_;cbv;repeat (first|apply bT rfl|apply bF rfl|apply nd rfl|(apply tT rfl;cbv)|(apply tF rfl;cbv)|(apply tT f0;cbv)|(apply tF f0;cbv)|(apply tT f1;cbv)|(apply tF f1;cbv)|(refine tF ((hS.eq k 12).trans (decide_eq_false hk)) ?_;cbv))
   first|exact aC hF|exact ib hF (by simp[jq,ku,aY.refl,z1,z2,z3,z4])
end Go.Proofs.YtekefilngojelaaGreat
end
