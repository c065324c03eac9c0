/- A part. -/
import Derived.Test.YtekefilngojelaaGreatM37
set_option maxHeartbeats 0
set_option maxRecDepth 100000
set_option linter.unusedVariables false
set_option linter.unusedSimpArgs false
section
namespace Go.Proofs.YtekefilngojelaaGreat
open Go Go.Abs Go.Abs.M Go.Proofs
theorem Gr:∀(n:Nat) (o:List T2),o.length<=n->bN n o []=o
 | 0,[],_=>rfl
 | 0,_::_,h=>by simp at h
 | n+1,[],_=>rfl
 | n+1,t::o,h=>by
  show t::bN n o []=t::o
  rw[Gr n o (by simpa using h)]
theorem N4 (o q:List T2):jg o ([],q)=o:=Gr _ o (by show o.length<=o.length+0;omega)
def Lm (v:List T2->List T2) (E:aS):List T2:=E.foldl (fun o x=>jg o (v x,x)) []
theorem Gs (v:List T2->List T2) (E:aS):kG (E.map v) E=Lm v E:=by
 unfold kG Lm;have h:(E.map v).zip E=E.map fun x=>(v x,x):=by
  induction E with
  | nil=>rfl
  | cons e E ih=>rw[List.map_cons,List.zip_cons_cons,List.map_cons,ih]
 rw[h,List.foldl_map]
theorem va (v:List T2->List T2) (E:aS):Lm v E=Lm v (E.filter fun x=>decide (v x≠[])):=by
 unfold Lm
 suffices h:∀o0,E.foldl (fun o x=>jg o (v x,x)) o0=(E.filter fun x=>decide (v x≠[])).foldl (fun o x=>jg o (v x,x)) o0 from h []
 intro o0
 induction E generalizing o0 with
 | nil=>rfl
 | cons e E ih=>
  rw[List.filter_cons]
  by_cases h:v e=[]
  ·rw[if_neg (by simp[h]),List.foldl_cons,h,N4];exact ih o0
  ·rw[if_pos (by simp[h]),List.foldl_cons,List.foldl_cons];exact ih _
theorem JB:∀ {A B:aS},mW A->mW B->(∀x,x∈A↔x∈B)->A=B
 | [],[],_,_,_=>rfl
 | [],b::B,_,_,h=>absurd ((h b).2 List.mem_cons_self) (by simp)
 | a::A,[],_,_,h=>absurd ((h a).1 List.mem_cons_self) (by simp)
 | a::A,b::B,hA,hB,h=>by
  obtain⟨a1,a2⟩:=List.pairwise_cons.1 hA;obtain⟨b1,b2⟩:=List.pairwise_cons.1 hB;have e:a=b:=by
   rcases List.mem_cons.1 ((h a).1 List.mem_cons_self) with e|ha
   ·exact e
   ·rcases List.mem_cons.1 ((h b).2 List.mem_cons_self) with e|hb
    ·exact e.symm
    ·exact absurd (oM (a1 b hb) (b1 a ha)) mC
  subst e;rw[JB a2 b2 fun x=>⟨fun hx=>?_,fun hx=>?_⟩]
  ·rcases List.mem_cons.1 ((h x).1 (List.mem_cons_of_mem _ hx)) with e|h'
   ·subst e;exact absurd (a1 x hx) mC
   ·exact h'
  ·rcases List.mem_cons.1 ((h x).2 (List.mem_cons_of_mem _ hx)) with e|h'
   ·subst e;exact absurd (b1 x hx) mC
   ·exact h'
theorem Cj {E E' l:aS} (sE:mW E) (Xw:mW E') (hl:l.length=E.length) (hv:Van E E' l):kG (LJ E E' l) E'=kG l E:=by
 have h2:kG l E=Lm (oh E l) E:=by
  have:=Gs (oh E l) E;rwa[Ll (ly sE) hl]at this
 rw[T7 (ly sE) (ly Xw) hl,Gs,h2,va _ E',va _ E];congr 1;refine JB (List.Pairwise.filter _ Xw) (List.Pairwise.filter _ sE) fun x=>?_
 simp only[List.mem_filter,decide_eq_true_eq];refine⟨fun h=>⟨?_,h.2⟩,fun h=>⟨?_,h.2⟩⟩
 ·exact Decidable.byContradiction fun h'=>h.2 (vX h')
 ·exact Decidable.byContradiction fun h'=>h.2 (QE hv h')
def pM (E aG:aS) (C:fi):aS:=(if aG=[] then [] else [kG aG E])++C.map fun r=>kG r E
theorem kf.abU {N M:Int} {E D E' D':aS} {k:Int} {aG:aS} {C:fi} {q:jJ} (hf:kf E.length k aG C q) (sE:mW E) (Xw:mW E')
  (hh:Jx N E D k aG C M E' D'=true) (he:E≠[]) (OM:E'≠[]):pM E' (ux E E' k aG) (Lj E E' k C)=pM E aG C:=by
 have uf:=hf.sh.uf;have hn:=ly sE;rcases T8.1 hh with⟨hw,_,rfl⟩|⟨hw,h1,h2,h3,h4⟩
 ·obtain⟨e1,e2⟩:=Ub (aG:=aG) (C:=C) hw E' E'
  rw[e1,e2]
 ·by_cases iH:k=12
  ·have hc:aG=[]:=by subst iH;cases hf;rfl
   rw[(NZ (aG:=aG) (C:=C) iH E E').1,(NZ (aG:=aG) (C:=C) iH E E').2,hc];unfold pM;rw[if_pos rfl,if_pos rfl,List.map_map];congr 1;refine List.map_congr_left fun r hr=>?_
   exact Cj sE Xw (uf.b iH r hr) (NY hn (uf.b iH r hr) fun i hi hu=>h4 i hi (by rw[T9 iH];exact List.any_eq_true.2 ⟨r,hr,hu⟩))
  ·have hC:C=[]:=by
    cases hf<;>first|rfl|exact absurd hw (by decide)|exact absurd rfl iH
   have hl:=uf.nb hw iH;rw[(RG (aG:=aG) (C:=C) hw iH E E').1,(RG (aG:=aG) (C:=C) hw iH E E').2,hC];unfold pM;have l1:aG≠[]:=fun e=>he (List.length_eq_zero_iff.1 (by rw[<-hl,e];rfl))
   have l2:LJ E E' aG≠[]:=fun e=>OM (List.length_eq_zero_iff.1 (by rw[<-vW E E' aG,e];rfl))
   rw[if_neg l1,if_neg l2,Cj sE Xw hl (NY hn hl fun i hi hu=>h4 i hi (by rw[Ua iH];exact hu))];rfl
theorem SP.p3 {p:List T2} (h:SP p):P3 p:=⟨fun t ht=>by
 have:=h.int t ht;exact⟨by rw[oL this.d];exact Qs.whole (by have:=this.n.2;omega) (by omega),by have:=this.a;omega,by have:=this.b;omega⟩,h.len⟩
theorem Gt {c e:aS} (hc:∀p∈c,P3 p) (he:∀p∈e,P3 p) (hl:c.length=e.length) (h4:e.length<=4):Qh (kG c e):=by
 have hz:∀x∈c.zip e,P3 x.1/\P3 x.2:=fun x hx=>⟨hc _ (List.of_mem_zip hx).1,he _ (List.of_mem_zip hx).2⟩
 have lz:(c.zip e).length=e.length:=by rw[List.length_zip];omega
 obtain⟨o1,o2⟩:=JA hz e.length (by omega);rw[<-lz,List.take_length]at o1 o2;exact⟨fun t ht=>(o1 t ht).mono (by omega) (by omega),by show((c.zip e).foldl jg []).length<=1000;omega⟩
end Go.Proofs.YtekefilngojelaaGreat
end
