/- A part. -/
import Derived.Test.YtekefilngojelaaGreatM15
import Derived.Test.YtekefilngojelaaGreatM19
set_option maxHeartbeats 0
set_option maxRecDepth 100000
set_option linter.unusedVariables false
set_option linter.unusedSimpArgs false
section
namespace Go.Proofs.YtekefilngojelaaGreat
open Go Go.Abs Go.Abs.M Go.Proofs
def Ju (t u:T2):Prop:=mU t.a t.b u.a u.b=1
theorem sO {t u:T2}:Ju t u↔(u.a<t.a∨t.a=u.a/\u.b<t.b):=by
 unfold Ju;rcases sf t.a t.b u.a u.b with⟨h,g⟩|⟨h,g1,g2⟩|⟨h,g⟩
 ·rw[h];constructor
  ·intro h;exact absurd h (by decide)
  ·intro h;omega
 ·rw[h];constructor
  ·intro h;exact absurd h (by decide)
  ·intro h;omega
 ·rw[h];exact⟨fun _=>g,fun _=>rfl⟩
theorem Jv {t u:T2}:0<t.cmp u↔Ju t u:=by
 unfold T2.cmp Ju;rcases sf t.a t.b u.a u.b with⟨h,g⟩|⟨h,g1,g2⟩|⟨h,g⟩<;>rw[h]<;>decide
theorem Jw {t u:T2}:t.cmp u<0↔Ju u t:=by
 rw[sO];unfold T2.cmp;rcases sf t.a t.b u.a u.b with⟨h,g⟩|⟨h,g1,g2⟩|⟨h,g⟩<;>rw[h]
 ·exact⟨fun _=>by omega,fun _=>by decide⟩
 ·exact⟨fun h=>absurd h (by decide),fun h=>by omega⟩
 ·exact⟨fun h=>absurd h (by decide),fun h=>by omega⟩
def Zb (A:Nat) (p:List T2):Prop:=∀t∈p,t.c.den=1/\t.c.num.natAbs<=A
theorem Lf {A B:Nat}:∀(f:Nat) (P Q:List T2),P.length+Q.length<=f->Vd P->Vd Q->Zb A P->Zb B Q ->
  Vd (bN f P Q)/\Zb (A+B) (bN f P Q)/\(∀t∈bN f P Q,∃u,(u∈P∨u∈Q)/\t.a=u.a/\t.b=u.b)/\(bN f P Q).length<=P.length+Q.length:=by
 intro f
 induction f with
 | zero=>
  intro P Q h _ _ _ _;exact⟨⟨by simp[bN],by simp[bN]⟩,by simp[bN,Zb],by simp[bN],by simp[bN]⟩
 | succ f ih=>
  intro P Q h vP vQ zP zQ;have cons:∀ {p:T2} {P' Q' R:List T2},(∀t∈R,∃u,(u∈P'∨u∈Q')/\t.a=u.a/\t.b=u.b)->(∀u,u∈P'∨u∈Q'->Ju p u)->∀t∈R,Ju p t:=fun h1 h2 t ht=>by
   obtain⟨u,hu,ea,eb⟩:=h1 t ht;have:=h2 u hu;rw[sO]at this ⊢;omega
  have tr:∀ {p q r:T2},Ju p q->Ju q r->Ju p r:=fun h1 h2=>by rw[sO]at *;omega
  match P,Q with
  | [],[]=>exact⟨⟨by simp[bN],by simp[bN]⟩,by simp[bN,Zb],by simp[bN],by simp[bN]⟩
  | p::P,[]=>
   have TU:=List.pairwise_cons.1 vP.2;obtain⟨h1,h2,h3,h4⟩:=ih P [] (by simp at h ⊢;omega) ⟨fun t ht=>vP.1 t (List.mem_cons_of_mem _ ht),TU.2⟩ vQ (fun t ht=>zP t (List.mem_cons_of_mem _ ht)) zQ;have e:bN (f+1) (p::P) []=p::bN f P []:=rfl;rw[e];refine⟨⟨fun t ht=>?_,List.pairwise_cons.2 ⟨cons h3 (fun u hu=>?_),h1.2⟩⟩,fun t ht=>?_,fun t ht=>?_,by simp at h4 ⊢;omega⟩
   ·rcases List.mem_cons.1 ht with rfl|ht
    ·exact vP.1 _ List.mem_cons_self
    ·exact h1.1 t ht
   ·rcases hu with hu|hu
    ·exact TU.1 u hu
    ·simp at hu
   ·rcases List.mem_cons.1 ht with rfl|ht
    ·have:=zP _ List.mem_cons_self;exact⟨this.1,by omega⟩
    ·exact h2 t ht
   ·rcases List.mem_cons.1 ht with rfl|ht
    ·exact⟨_,Or.inl List.mem_cons_self,rfl,rfl⟩
    ·obtain⟨u,hu,e⟩:=h3 t ht;exact⟨u,hu.imp (List.mem_cons_of_mem _) id,e⟩
  | [],q::Q=>
   have TW:=List.pairwise_cons.1 vQ.2;obtain⟨h1,h2,h3,h4⟩:=ih [] Q (by simp at h ⊢;omega) vP ⟨fun t ht=>vQ.1 t (List.mem_cons_of_mem _ ht),TW.2⟩ zP (fun t ht=>zQ t (List.mem_cons_of_mem _ ht));have e:bN (f+1) [] (q::Q)=q::bN f [] Q:=rfl;rw[e];refine⟨⟨fun t ht=>?_,List.pairwise_cons.2 ⟨cons h3 (fun u hu=>?_),h1.2⟩⟩,fun t ht=>?_,fun t ht=>?_,by simp at h4 ⊢;omega⟩
   ·rcases List.mem_cons.1 ht with rfl|ht
    ·exact vQ.1 _ List.mem_cons_self
    ·exact h1.1 t ht
   ·rcases hu with hu|hu
    ·simp at hu
    ·exact TW.1 u hu
   ·rcases List.mem_cons.1 ht with rfl|ht
    ·have:=zQ _ List.mem_cons_self;exact⟨this.1,by omega⟩
    ·exact h2 t ht
   ·rcases List.mem_cons.1 ht with rfl|ht
    ·exact⟨_,Or.inr List.mem_cons_self,rfl,rfl⟩
    ·obtain⟨u,hu,e⟩:=h3 t ht;exact⟨u,hu.imp id (List.mem_cons_of_mem _),e⟩
  | p::P,q::Q=>
   have TU:=List.pairwise_cons.1 vP.2;have TW:=List.pairwise_cons.1 vQ.2;have vPt:Vd P:=⟨fun t ht=>vP.1 t (List.mem_cons_of_mem _ ht),TU.2⟩;have vQt:Vd Q:=⟨fun t ht=>vQ.1 t (List.mem_cons_of_mem _ ht),TW.2⟩;have zPt:Zb A P:=fun t ht=>zP t (List.mem_cons_of_mem _ ht)
   have zQt:Zb B Q:=fun t ht=>zQ t (List.mem_cons_of_mem _ ht)
   have e:bN (f+1) (p::P) (q::Q)=if 0<p.cmp q then p::bN f P (q::Q) else if p.cmp q<0 then q::bN f (p::P) Q else
     if p.c+q.c=0 then bN f P Q else⟨p.c+q.c,p.a,p.b⟩::bN f P Q:=rfl
   rw[e];split
   ·rename_i hg
    have hg:=Jv.1 hg;obtain⟨h1,h2,h3,h4⟩:=ih P (q::Q) (by simp at h ⊢;omega) vPt vQ zPt zQ;refine⟨⟨fun t ht=>?_,List.pairwise_cons.2 ⟨cons h3 (fun u hu=>?_),h1.2⟩⟩,fun t ht=>?_,fun t ht=>?_,by simp at h4 ⊢;omega⟩
    ·rcases List.mem_cons.1 ht with rfl|ht
     ·exact vP.1 _ List.mem_cons_self
     ·exact h1.1 t ht
    ·rcases hu with hu|hu
     ·exact TU.1 u hu
     ·rcases List.mem_cons.1 hu with rfl|hu
      ·exact hg
      ·exact tr hg (TW.1 u hu)
    ·rcases List.mem_cons.1 ht with rfl|ht
     ·have:=zP _ List.mem_cons_self;exact⟨this.1,by omega⟩
     ·exact h2 t ht
    ·rcases List.mem_cons.1 ht with rfl|ht
     ·exact⟨_,Or.inl List.mem_cons_self,rfl,rfl⟩
     ·obtain⟨u,hu,e⟩:=h3 t ht;exact⟨u,hu.imp (List.mem_cons_of_mem _) id,e⟩
   ·split
    ·rename_i hg
     have hg:=Jw.1 hg;obtain⟨h1,h2,h3,h4⟩:=ih (p::P) Q (by simp at h ⊢;omega) vP vQt zP zQt;refine⟨⟨fun t ht=>?_,List.pairwise_cons.2 ⟨cons h3 (fun u hu=>?_),h1.2⟩⟩,fun t ht=>?_,fun t ht=>?_,by simp at h4 ⊢;omega⟩
     ·rcases List.mem_cons.1 ht with rfl|ht
      ·exact vQ.1 _ List.mem_cons_self
      ·exact h1.1 t ht
     ·rcases hu with hu|hu
      ·rcases List.mem_cons.1 hu with rfl|hu
       ·exact hg
       ·exact tr hg (TU.1 u hu)
      ·exact TW.1 u hu
     ·rcases List.mem_cons.1 ht with rfl|ht
      ·have:=zQ _ List.mem_cons_self;exact⟨this.1,by omega⟩
      ·exact h2 t ht
     ·rcases List.mem_cons.1 ht with rfl|ht
      ·exact⟨_,Or.inr List.mem_cons_self,rfl,rfl⟩
      ·obtain⟨u,hu,e⟩:=h3 t ht;exact⟨u,hu.imp id (List.mem_cons_of_mem _),e⟩
    ·rename_i n1 n2
     have GA:p.a=q.a/\p.b=q.b:=by
      have g1:¬Ju p q:=fun h=>n1 (Jv.2 h)
      have g2:¬Ju q p:=fun h=>n2 (Jw.2 h)
      rw[sO]at g1 g2;omega
     obtain⟨h1,h2,h3,h4⟩:=ih P Q (by simp at h ⊢;omega) vPt vQt zPt zQt;split
     ·exact⟨h1,h2,fun t ht=>by obtain⟨u,hu,e⟩:=h3 t ht;exact⟨u,hu.imp (List.mem_cons_of_mem _) (List.mem_cons_of_mem _),e⟩,by simp at h4 ⊢;omega⟩
     ·rename_i dh
      refine⟨⟨fun t ht=>?_,List.pairwise_cons.2 ⟨cons h3 (fun u hu=>?_),h1.2⟩⟩,fun t ht=>?_,fun t ht=>?_,by simp at h4 ⊢;omega⟩
      ·rcases List.mem_cons.1 ht with rfl|ht
       ·exact dh
       ·exact h1.1 t ht
      ·show Ju p u
       rcases hu with hu|hu
       ·exact TU.1 u hu
       ·have h5:Ju q u:=TW.1 u hu
        rw[sO]at h5 ⊢;omega
      ·rcases List.mem_cons.1 ht with rfl|ht
       ·have z1:=zP p List.mem_cons_self
        have z2:=zQ q List.mem_cons_self;simp only;rw[oL z1.1,oL z2.1,<-Rat.intCast_add];refine⟨Rat.den_intCast _,?_⟩;rw[Rat.num_intCast];omega
       ·exact h2 t ht
      ·rcases List.mem_cons.1 ht with rfl|ht
       ·exact⟨p,Or.inl List.mem_cons_self,rfl,rfl⟩
       ·obtain⟨u,hu,e⟩:=h3 t ht;exact⟨u,hu.imp (List.mem_cons_of_mem _) (List.mem_cons_of_mem _),e⟩
end Go.Proofs.YtekefilngojelaaGreat
end
