/- A part. -/
import Derived.Test.YtekefilngojelaaGreatM15
import Derived.Test.YtekefilngojelaaGreatM22
import Derived.Test.YtekefilngojelaaGreatM30
import Derived.Test.YtekefilngojelaaGreatM33
set_option maxHeartbeats 0
set_option maxRecDepth 100000
set_option linter.unusedVariables false
set_option linter.unusedSimpArgs false
section
namespace Go.Proofs.YtekefilngojelaaGreat
open Go Go.Abs Go.Abs.M Go.Proofs
structure Xr (m:Nat) (k:Int) (aG:aS) (C:fi):Prop where
 uf:UF m k aG C
 c:aG=[]∨aG.length=m
 b:k=12->aG=[]/\C.length<=3/\∀r∈C,r.length=m
theorem kf.sh {m:Nat} {k:Int} {aG:aS} {C:fi} {q:jJ} (h:kf m k aG C q):Xr m k aG C:=by
 cases h with
 | k1 P aG h1 h2 h3=>exact⟨⟨by decide,fun _ _=>h2,fun e=>absurd e (by decide),by simp⟩,.inr h2,fun e=>absurd e (by decide)⟩
 | k2 P C G O Q Sx h1 h2=>exact⟨⟨by decide,fun e=>absurd e (by decide),fun e=>absurd e (by decide),by have:=h2.c.1;have:=h2.g;omega⟩,.inl rfl,fun e=>absurd e (by decide)⟩
 | k3 n aG h1 h2 h3=>exact⟨⟨by decide,fun _ _=>h2,fun e=>absurd e (by decide),by simp⟩,.inr h2,fun e=>absurd e (by decide)⟩
 | k4 O1 Lc C G O Q Sx h1 h2 h3 h4=>exact⟨⟨by decide,fun e=>absurd e (by decide),fun e=>absurd e (by decide),by have:=h4.c.1;have:=h4.g;omega⟩,.inl rfl,fun e=>absurd e (by decide)⟩
 | k5 cn cd C G O Q Sx h1 h2 h4=>exact⟨⟨by decide,fun e=>absurd e (by decide),fun e=>absurd e (by decide),by have:=h4.c.1;have:=h4.g;omega⟩,.inl rfl,fun e=>absurd e (by decide)⟩
 | k6 cn cd cr C G O Q Sx h1 h2 h4=>exact⟨⟨by decide,fun e=>absurd e (by decide),fun e=>absurd e (by decide),by have:=h4.c.1;have:=h4.g;omega⟩,.inl rfl,fun e=>absurd e (by decide)⟩
 | k7 Z C G O Q Sx U U1 At a h1 h2 h4 h5=>exact⟨⟨by decide,fun e=>absurd e (by decide),fun e=>absurd e (by decide),by have:=h4.c.1;have:=h4.g;omega⟩,.inl rfl,fun e=>absurd e (by decide)⟩
 | k8 P Z Sg C G O Q Sx U U1 At a h0 h1 h2 h3 h6 h4 h5=>exact⟨⟨by decide,fun e=>absurd e (by decide),fun e=>absurd e (by decide),by have:=h4.c.1;have:=h4.g;omega⟩,.inl rfl,fun e=>absurd e (by decide)⟩
 | k9 aG Sq h2 h3 h4 h5=>exact⟨⟨by decide,fun _ _=>h2,fun e=>absurd e (by decide),by simp⟩,.inr h2,fun e=>absurd e (by decide)⟩
 | KN P aG Sq h1 h2 h3 h4 h5=>exact⟨⟨by decide,fun _ _=>h2,fun e=>absurd e (by decide),by simp⟩,.inr h2,fun e=>absurd e (by decide)⟩
 | Ow Lc C h1 h2 h3=>
  have hl:C.length<=7:=by
   rw[h3.1];rcases(show Lc.length=0∨Lc.length=1∨Lc.length=2∨Lc.length=3 by omega) with e|e|e|e<;>rw[e]<;>decide
  exact⟨⟨by decide,fun e=>absurd e (by decide),fun e=>absurd e (by decide),by omega⟩,.inl rfl,fun e=>absurd e (by decide)⟩
 | TJ cn C G O h1 h2=>exact⟨⟨by decide,fun _ e=>absurd rfl e,fun _ r hr=>(h2.c.2 r hr).1,by have:=h2.c.1;have:=h2.g;omega⟩,.inl rfl,fun _=>⟨rfl,by have:=h2.c.1;have:=h2.g;omega,fun r hr=>(h2.c.2 r hr).1⟩⟩
 | YI cn Xs Bs h1 h2 h3 h4 h5=>exact⟨⟨by decide,fun e=>absurd e (by decide),fun e=>absurd e (by decide),by simp⟩,.inl rfl,fun e=>absurd e (by decide)⟩
def OB (k:Int) (b c:Bool) (C:fi):fi:=if k=12 then C.map (GU b c) else C
theorem Xr.thin {m:Nat} {k:Int} {aG:aS} {C:fi} (h:Xr m k aG C) (b c:Bool):Xr m k (GU b c aG) (OB k b c C):=by
 have hr:k=12->∀r∈OB k b c C,r.length=m:=fun e r hr=>by
  unfold OB at hr;rw[if_pos e]at hr;obtain⟨x,hx,rfl⟩:=List.mem_map.1 hr;rw[kg];exact(h.b e).2.2 x hx
 have hl:(OB k b c C).length=C.length:=by unfold OB;split<;>simp
 exact⟨⟨h.uf.kk,fun h1 h2=>by rw[kg];exact h.uf.nb h1 h2,hr,by rw[hl];exact h.uf.lc⟩,h.c.elim (fun e=>.inl (by rw[e];rfl)) (fun e=>.inr (by rw[kg];exact e)),fun e=>⟨by rw[(h.b e).1];rfl,by rw[hl];exact(h.b e).2.1,hr e⟩⟩
theorem Lk (N k mask:Int) (E:aS) (hE:E.length<=2) (D:Tree) (aG:aS) (C:fi) (q:jJ) (h:Xr E.length k aG C) :
  aH 8 [.val (.agg (fT N (.aa false (aj E)) D k (.aa false (aj aG)) (.aa false (dL C)) q)),.val (ti .u8 mask)]
   ⟨[.val (.agg (fT N (.aa false (aj E)) D k (.aa false (aj (GU (sS mask 0) (sS mask 1) aG))) (.aa false (dL (OB k (sS mask 0) (sS mask 1) C))) q))],[none,none]⟩:=by
 unfold OB
 by_cases iH:k=12
 ·subst iH
  obtain⟨rfl,h1,h2⟩:=h.b rfl;rw[if_pos rfl]
  match E,hE,h2 with
  | [],_,h2=>
   have e:C.map (GU (sS mask 0) (sS mask 1))=C:=by
    refine(List.map_congr_left fun r hr=>?_).trans (List.map_id C);rw[List.length_eq_zero_iff.1 (h2 r hr)];rfl
   rw[e];exact QA N mask D _ q
  | [e0],_,h2=>exact QB N mask D e0 C h1 h2 q
  | [e0,e1],_,h2=>exact QD N mask D e0 e1 C h1 h2 q
 ·rw[if_neg iH]
  exact Qz N k mask E hE D _ iH aG h.c q
theorem CN (a b:Nat):Nat.blt a b=decide (a<b):=by rw[Bool.eq_iff_iff];simp
end Go.Proofs.YtekefilngojelaaGreat
end
