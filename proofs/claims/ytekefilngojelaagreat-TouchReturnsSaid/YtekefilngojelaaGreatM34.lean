/- A part of the proof. -/
import Derived.Test.YtekefilngojelaaGreatM18
import Derived.Test.YtekefilngojelaaGreatM25
set_option maxHeartbeats 0
set_option maxRecDepth 100000
set_option linter.unusedVariables false
set_option linter.unusedSimpArgs false
section
namespace Go.Proofs.YtekefilngojelaaGreat
open Go Go.Abs Go.Abs.M Go.Proofs
def sJ (mask:Int) (i:Nat):Bool:=!decide ((mask.fdiv (2^(Min.min i 8))).tmod 2=0)
def G6 (b c:Bool):List (List T2)->List (List T2)
 | [p]=>[if b=true then [] else p]
 | [p,q]=>[if b=true then [] else p,if c=true then [] else q]
 | l=>l
theorem j6 (b c:Bool) (l:List (List T2)):(G6 b c l).length=l.length:=by unfold G6;split<;>rfl
theorem QQ {b c:Bool} {l:List (List T2)} {f:List T2->Prop} (h0:f []) (h:∀p∈l,f p):∀p∈G6 b c l,f p:=by
 unfold G6;split
 ·intro p hp;rw[List.mem_singleton]at hp;subst hp;split
  ·exact h0
  ·exact h _ (by simp)
 ·intro p hp;simp only[List.mem_cons,List.not_mem_nil,or_false]at hp
  rcases hp with rfl|rfl<;>split<;>first|exact h0|exact h _ (by simp)
 ·exact h
theorem QR (N k mask:Int) (E:List (List T2)) (hE:E.length<=2) (D C:Tree) (hk:k≠12) (aG:List (List T2)) (hc:aG=[]∨aG.length=E.length) (q:jC) :
  ah Tryz.prog 8 [.val (.agg (fT N (.aa false (an E)) D k (.aa false (an aG)) C q)),.val (ti .u8 mask)] ⟨[.val (.agg (fT N (.aa false (an E)) D k (.aa false (an (G6 (sJ mask 0) (sJ mask 1) aG))) C q))],[none,none]⟩:=by
 unfold fT;have z1:aW (.aa false [[.aa true []]]) (.aa false [[.aa false []]]):=gS [none] false;have z2:∀p,aW (.aa false [[.aa true []],[.aa false (aV p)]]) (.aa false [[.aa false []],[.aa false (aV p)]]):=fun p=>gS [none,some p] false
 have z3:∀p,aW (.aa false [[.aa false (aV p)],[.aa true []]]) (.aa false [[.aa false (aV p)],[.aa false []]]):=fun p=>gS [some p,none] false
 have z4:aW (.aa false [[.aa true []],[.aa true []]]) (.aa false [[.aa false []],[.aa false []]]):=gS [none,none] false;have hs:(E=[]/\aG=[])∨(∃e0,E=[e0]/\aG=[])∨(∃e0 c0,E=[e0]/\aG=[c0])∨(∃e0 e1,E=[e0,e1]/\aG=[])∨(∃e0 e1 c0 c1,E=[e0,e1]/\aG=[c0,c1]):=by
  match E,aG,hE,hc with
  | [],[],_,_=>simp
  | [],_::_,_,h=>simp at h
  | [e0],[],_,_=>simp
  | [e0],[c0],_,_=>simp
  | [e0],_::_::_,_,h=>simp at h
  | [e0,e1],[],_,_=>simp
  | [e0,e1],[c0,c1],_,_=>simp
  | [e0,e1],[_],_,h=>simp at h
  | [e0,e1],_::_::_::_,_,h=>simp at h
  | _::_::_::_,_,h,_=>simp at h
 obtain⟨rfl,rfl⟩|⟨e0,rfl,rfl⟩|⟨e0,c0,rfl,rfl⟩|⟨e0,e1,rfl,rfl⟩|⟨e0,e1,c0,c1,rfl,rfl⟩:=hs
 all_goals
  cases Ex:sJ mask 0<;>cases mO:sJ mask 1
  all_goals
   simp only[G6,an,di,List.map_cons,List.map_nil,if_true,if_false,Bool.false_eq_true,show aV []=[] from rfl];generalize aV=T at *;refine ep aj mixed [.val] Tryz.func8 rfl rfl (by kernel_rfl) fun _ _ _ _ _ zJ _ zM _ _ _ _ zT _ _ _ _ _ _ _ _ _ _ _ _ _ _ _ _ _ _ _ _ _ A L F hS hF=>?_
   have f0:fo zT (bJ zJ (zM .u8 mask (Int.ofNat 0)) 2) 0=!sJ mask 0:=by rw[hS.eq,hS.rem,hS.shr];unfold sJ;rw[Bool.not_not];rfl
   have f1:fo zT (bJ zJ (zM .u8 mask (Int.ofNat 1)) 2) 0=!sJ mask 1:=by rw[hS.eq,hS.rem,hS.shr];unfold sJ;rw[Bool.not_not];rfl
   rw[Ex]at f0;rw[mO]at f1;cbv;repeat (first|(refine tT rfl ?_;cbv)|(refine tF rfl ?_;cbv)|(refine nd rfl ?_;cbv))
   refine fm aj mixed hS (4) ?_;cbv;repeat (first|apply bT rfl|apply bF rfl|apply nd rfl|(refine tT rfl ?_;cbv)|(refine tF rfl ?_;cbv)|(refine tT f0 ?_;cbv)|(refine tF f0 ?_;cbv)|(refine tT f1 ?_;cbv)|(refine tF f1 ?_;cbv)|(refine tF ((hS.eq k 12).trans (decide_eq_false hk)) ?_;cbv))
   first|exact hF _ (ak.refl _)|exact gX hF (by simp[je,kh,aW.refl,z1,z2,z3,z4])
end Go.Proofs.YtekefilngojelaaGreat
end
