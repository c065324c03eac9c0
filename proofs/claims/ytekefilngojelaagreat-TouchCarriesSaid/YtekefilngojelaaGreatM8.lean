/- A part. -/
import Derived.Orders
import Derived.Test.YtekefilngojelaaGreatM6
import Derived.Test.YtekefilngojelaaGreatM7
set_option maxHeartbeats 0
set_option maxRecDepth 100000
set_option linter.unusedVariables false
set_option linter.unusedSimpArgs false
set_option linter.unusedSectionVars false
section
namespace Go.Abs
def wU (acc:List Nat):List Oper->List Nat
 | []=>acc
 | o::os=>wU (acc ++ [o.after.toList.foldl (fun s e=>if Region.binds .any e then s ||| (2^e.on ||| acc.getD e.on 0) else s) 0]) os
def qj (ops:List Oper) (x y:Oper) (ex ey:cR):Bool:=
 (match x.dst with|some d=>(mM ops y).contains d||y.dst==some d|none=>false) ||
 (match y.dst with|some d=>(mM ops x).contains d|none=>false) ||
 (ids ex.wr).any (fun b=>(ids ey.wr).contains b||ey.rd.contains b)||ex.rd.any fun b=>(ids ey.wr).contains b
def jG (ops:List Oper) (aV:List cR):Bool:=
 (List.range ops.length).all fun j=>(((ops.getD j default).after.toList.all fun e=>!Region.binds .any e||decide (e.on<j))) &&
  (List.range j).all fun i=>((wU [] ops).getD j 0).testBit i || !qj ops (ops.getD i default) (ops.getD j default) (aV.getD i {}) (aV.getD j {})
def dz (st:St) (ops:List Oper) (aV:List cR) (E:Nat->Bool):Nat->St
 | 0=>st
 | i+1=>if E i then(dz st ops aV E i).app (ops.getD i default) (aV.getD i {}) else dz st ops aV E i
section
variable {P:Program} {C:eA} {ops:List Oper} {aV:List cR} {st:St}
theorem tG (o:Oper) (os:List Oper) (e:cR) (es:List cR) (st:St):∀i,dz st (o::os) (e::es) (fun _=>true) (i+1)=dz (st.app o e) os es (fun _=>true) i
 | 0=>rfl
 | i+1=>by
  have:=tG o os e es st i;rw[dz,if_pos rfl,this];rfl
theorem ES:∀(os:List Oper) (slot:Nat) (st:St) (tr:List cR) (Q:List cR->St->Prop),wJ P C ops os slot st tr Q ->
  ∃es:List cR,es.length=os.length/\(∀i,i<os.length->fF P C ops (slot+bG C (os.take i)) (os.getD i default) (dz st os es (fun _=>true) i) (·=es.getD i {}))/\Q (tr++es) (dz st os es (fun _=>true) os.length)
 | [],slot,st,tr,Q,h=>⟨[],rfl,by simp,by simpa[dz,wJ]using h⟩
 | o::os,slot,st,tr,Q,h=>by
  obtain⟨e,h1,h2⟩:=Mv h;obtain⟨es,h3,h4,h5⟩:=ES os _ _ _ _ h2;refine⟨e::es,by simp[h3],fun i hi=>?_,?_⟩
  ·cases i with
   | zero=>simpa[bG,dz]using h1
   | succ i=>
    rw[tG];have:=h4 i (by simpa using hi);simpa[bG,Nat.add_assoc]using this
  ·rw[List.length_cons,tG]
   simpa using h5
theorem nD (st:St) (o:Oper) (e:cR) (t:Nat):(st.app o e).tmps[t]?=if o.dst=some t then(if t<st.tmps.length then some e.val else none) else st.tmps[t]?:=by
 unfold St.app;cases hd:o.dst with
 | none=>simp
 | some d=>
  simp only[List.getElem?_set,Option.some.injEq]
  by_cases h:d=t
  ·subst h;simp
  ·rw[if_neg h,if_neg h]
theorem Mw (st:St) (o:Oper) (e:cR):(st.app o e).tmps.length=st.tmps.length:=by
 unfold St.app;cases o.dst<;>simp
theorem iX:∀(l:List (Nat×Option aA)) (h:bU) (b:Nat),b ∉ ids l->(eR h l)[b]?=h[b]?
 | [],_,_,_=>rfl
 | p::l,h,b,hn=>by
  simp only[ids,List.map_cons,List.mem_cons,not_or]at hn;rw[iV,iX l _ b hn.2,List.getElem?_set,if_neg (fun e=>hn.1 e.symm)]
theorem qk:∀(l:List (Nat×Option aA)) (h h':bU) (b:Nat),h.length=h'.length->b∈ids l->(eR h l)[b]?=(eR h' l)[b]?
 | p::l,h,h',b,hl,hb=>by
  rw[iV,iV]
  by_cases Mf:b∈ids l
  ·exact qk l _ _ b (by simp[hl]) Mf
  ·rw[iX l _ b Mf,iX l _ b Mf]
   simp only[ids,List.map_cons,List.mem_cons]at hb;have:b=p.1:=hb.resolve_right Mf;subst this;rw[List.getElem?_set,List.getElem?_set,if_pos rfl,if_pos rfl,hl]
theorem fS (E:Nat->Bool):∀m,(dz st ops aV E m).tmps.length=st.tmps.length/\(dz st ops aV E m).heap.length=st.heap.length
 | 0=>⟨rfl,rfl⟩
 | m+1=>by
  obtain⟨h1,h2⟩:=fS E m;unfold dz;split
  ·exact⟨by rw[Mw,h1],by rw[wL,h2]⟩
  ·exact⟨h1,h2⟩
theorem oy {E E':Nat->Bool} {t:Nat}:∀m,(∀i,i<m->(ops.getD i default).dst=some t->E i=E' i)->(dz st ops aV E m).tmps[t]?=(dz st ops aV E' m).tmps[t]?
 | 0,_=>rfl
 | m+1,h=>by
  have ih:=oy m fun i hi=>h i (by omega)
  unfold dz
  by_cases hd:(ops.getD m default).dst=some t
  ·rw[h m (by omega) hd]
   split
   ·rw[nD,nD,if_pos hd,if_pos hd,(fS E m).1,(fS E' m).1]
   ·exact ih
  ·have e1:∀(s:St),(s.app (ops.getD m default) (aV.getD m {})).tmps[t]?=s.tmps[t]?:=fun s=>by rw[nD,if_neg hd]
   split<;>split<;>(try simp only[e1])<;>exact ih
theorem oz {E E':Nat->Bool} {b:Nat}:∀m,(∀i,i<m->b∈ids (aV.getD i {}).wr->E i=E' i)->(dz st ops aV E m).heap[b]?=(dz st ops aV E' m).heap[b]?
 | 0,_=>rfl
 | m+1,h=>by
  have ih:=oz m fun i hi=>h i (by omega)
  unfold dz
  by_cases hd:b∈ids (aV.getD m {}).wr
  ·rw[h m (by omega) hd]
   split
   ·exact qk _ _ _ b (by rw[(fS E m).2,(fS E' m).2]) hd
   ·exact ih
  ·have e1:∀(s:St),(s.app (ops.getD m default) (aV.getD m {})).heap[b]?=s.heap[b]?:=fun s=>iX _ _ b hd
   split<;>split<;>(try simp only[e1])<;>exact ih
theorem nE (E:Nat->Bool) {i:Nat}:∀m,i<=m->dz st ops aV (fun k=>E k&&decide (k<i)) m=dz st ops aV E i
 | 0,h=>by
  have:i=0:=by omega
  subst this;rfl
 | m+1,h=>by
  rcases Nat.lt_or_ge m i with hm|hm
  ·have:i=m+1:=by omega
   subst this;have gen:∀k,k<=m+1->dz st ops aV (fun k=>E k&&decide (k<m+1)) k=dz st ops aV E k:=by
    intro k
    induction k with
    | zero=>intro _;rfl
    | succ k ih=>
     intro hk;unfold dz;rw[ih (by omega)];have:decide (k<m+1)=true:=by simp;omega
     simp only[this,Bool.and_true]
   exact gen _ (Nat.le_refl _)
  ·have e:dz st ops aV (fun k=>E k&&decide (k<i)) (m+1)=(if(E m&&decide (m<i))=true then(dz st ops aV (fun k=>E k&&decide (k<i)) m).app (ops.getD m default) (aV.getD m {}) else dz st ops aV (fun k=>E k&&decide (k<i)) m):=rfl
   have:decide (m<i)=false:=by simp;omega
   rw[e,this,Bool.and_false,if_neg (by simp)];exact nE E m hm
theorem wV {acc:List Nat} {i:Nat}:∀(l:List Edge) (s:Nat),(l.foldl (fun s e=>if Region.binds .any e then s ||| (2^e.on ||| acc.getD e.on 0) else s) s).testBit i=true ->
  s.testBit i=true∨∃e∈l,Region.binds .any e=true/\(e.on=i∨(acc.getD e.on 0).testBit i=true)
 | [],s,h=>.inl h
 | e::l,s,h=>by
  rw[List.foldl_cons]at h;rcases wV l _ h with h1|⟨e',h1,h2,h3⟩
  ·split at h1
   ·rename_i hb
    rw[Nat.testBit_or,Nat.testBit_or,Bool.or_eq_true,Bool.or_eq_true]at h1;rcases h1 with h1|h1|h1
    ·exact .inl h1
    ·rw[Nat.testBit_two_pow]at h1
     exact .inr ⟨e,by simp,hb,.inl (by simpa using h1)⟩
    ·exact .inr ⟨e,by simp,hb,.inr h1⟩
   ·exact .inl h1
  ·exact .inr ⟨e',by simp[h1],h2,h3⟩
theorem AF:∀(os pre:List Oper) (acc:List Nat),acc.length=pre.length ->
  (∀j,j<pre.length->∀i,(acc.getD j 0).testBit i=true->∃e∈(pre.getD j default).after.toList,Region.binds .any e=true/\(e.on=i∨(e.on<j/\(acc.getD e.on 0).testBit i=true))) ->
  ∀j,j<(pre++os).length->∀i,((wU acc os).getD j 0).testBit i=true->∃e∈((pre++os).getD j default).after.toList,Region.binds .any e=true/\(e.on=i∨(e.on<j/\((wU acc os).getD e.on 0).testBit i=true))
 | [],pre,acc,hl,h,j,hj,i,hb=>by simpa[wU]using h j (by simpa using hj) i hb
 | o::os,pre,acc,hl,h,j,hj,i,hb=>by
  have e1:pre++o::os=(pre ++ [o])++os:=by simp
  rw[e1]at hj ⊢;rw[wU]at hb ⊢;refine AF os (pre ++ [o]) _ (by simp[hl]) (fun j hj i hb=>?_) j hj i hb;rw[List.length_append,List.length_singleton]at hj;rcases Nat.lt_or_ge j pre.length with h1|h1
  ·rw[List.getD_eq_getElem?_getD,List.getElem?_append,if_pos (by omega),<-List.getD_eq_getElem?_getD]at hb
   obtain⟨e,q1,q2,q3⟩:=h j h1 i hb;refine⟨e,?_,q2,?_⟩
   ·rw[List.getD_eq_getElem?_getD,List.getElem?_append,if_pos h1,<-List.getD_eq_getElem?_getD];exact q1
   ·rcases q3 with q3|⟨q3,q4⟩
    ·exact .inl q3
    ·refine .inr ⟨q3,?_⟩
     rw[List.getD_eq_getElem?_getD,List.getElem?_append,if_pos (by omega),<-List.getD_eq_getElem?_getD];exact q4
  ·have hjj:j=pre.length:=by omega
   subst hjj;rw[List.getD_eq_getElem?_getD,List.getElem?_append,if_neg (by omega),hl,Nat.sub_self,List.getElem?_cons_zero,Option.getD_some]at hb;rcases wV _ _ hb with h2|⟨e,q1,q2,q3⟩
   ·simp at h2
   ·refine⟨e,?_,q2,?_⟩
    ·rw[List.getD_eq_getElem?_getD,List.getElem?_append,if_neg (by omega),Nat.sub_self,List.getElem?_cons_zero,Option.getD_some];exact q1
    ·rcases q3 with q3|q3
     ·exact .inl q3
     ·have bJ:e.on<acc.length:=by
       rcases Nat.lt_or_ge e.on acc.length with h|h
       ·exact h
       ·rw[List.getD_eq_getElem?_getD,List.getElem?_eq_none h]at q3;simp at q3
      refine .inr ⟨by omega,?_⟩;rw[List.getD_eq_getElem?_getD,List.getElem?_append,if_pos bJ,<-List.getD_eq_getElem?_getD];exact q3
def qo (ops:List Oper) (E:Nat->Bool):Prop:=∀j,j<ops.length->E j=true->∀e∈(ops.getD j default).after.toList,Region.binds .any e=true->E e.on=true
theorem qo.bef {E:Nat->Bool} (h:qo ops E):∀j,j<ops.length->E j=true->∀i,((wU [] ops).getD j 0).testBit i=true->E i=true:=by
 intro j
 induction j using Nat.strongRecOn with
 | _ j ih=>
  intro hj hE i hb;obtain⟨e,q1,q2,q3⟩:=AF ops [] [] rfl (by simp) j (by simpa using hj) i hb;have he:=h j hj hE e (by simpa using q1) q2;rcases q3 with rfl|⟨q3,q4⟩
  ·exact he
  ·exact ih e.on q3 (by omega) he i q4
end
section
variable {P:Program} {C:eA} {ops:List Oper} {aV:List cR} {st:St}
theorem J1 {E:Nat->Bool} {t m n:Nat} (G5:m<=n) (h:∀k,m<=k->k<n->(ops.getD k default).dst=some t->E k=false):(dz st ops aV E n).tmps[t]?=(dz st ops aV E m).tmps[t]?:=by
 rw[<-nE E n G5];refine oy n fun k hk hd=>?_
 rcases Nat.lt_or_ge k m with h1|h1
 ·simp[h1]
 ·rw[h k h1 hk hd];rfl
theorem J2 {E:Nat->Bool} {b m n:Nat} (G5:m<=n) (h:∀k,m<=k->k<n->b∈ids (aV.getD k {}).wr->E k=false):(dz st ops aV E n).heap[b]?=(dz st ops aV E m).heap[b]?:=by
 rw[<-nE E n G5];refine oz n fun k hk hd=>?_
 rcases Nat.lt_or_ge k m with h1|h1
 ·simp[h1]
 ·rw[h k h1 hk hd];rfl
theorem uM (h:jG ops aV=true) {j:Nat} (hj:j<ops.length):∀e∈(ops.getD j default).after.toList,Region.binds .any e=true->e.on<j:=by
 unfold jG at h;have:=List.all_eq_true.1 h j (List.mem_range.2 hj);rw[Bool.and_eq_true]at this;intro e he hb;have:=List.all_eq_true.1 this.1 e he;simpa[hb]using this
theorem ET (h:jG ops aV=true) {i j:Nat} (Ed:i<j) (hj:j<ops.length):((wU [] ops).getD j 0).testBit i=true∨qj ops (ops.getD i default) (ops.getD j default) (aV.getD i {}) (aV.getD j {})=false:=by
 unfold jG at h;have:=List.all_eq_true.1 h j (List.mem_range.2 hj);rw[Bool.and_eq_true]at this;have:=List.all_eq_true.1 this.2 i (List.mem_range.2 Ed);rw[Bool.or_eq_true]at this;rcases this with h|h
 ·exact .inl h
 ·exact .inr (by simpa using h)
theorem ordered (h:jG ops aV=true) {E:Nat->Bool} (hE:qo ops E) {i j:Nat} (Ed:i<j) (hj:j<ops.length) (GM:E j=true)
  (hc:qj ops (ops.getD i default) (ops.getD j default) (aV.getD i {}) (aV.getD j {})=true):E i=true:=by
 rcases ET h Ed hj with h1|h1
 ·exact hE.bef j hj GM i h1
 ·rw[hc]at h1;cases h1
theorem IQ {x y:Oper} {ex ey:cR} {t:Nat} (hd:x.dst=some t) (hu:t∈mM ops y∨y.dst=some t):qj ops x y ex ey=true:=by
 unfold qj;rw[hd];simp only;rcases hu with h|h
 ·have:(mM ops y).contains t=true:=by simpa using h
  rw[this];rfl
 ·rw[h];simp
theorem Pb {x y:Oper} {ex ey:cR} {t:Nat} (hd:y.dst=some t) (hu:t∈mM ops x):qj ops x y ex ey=true:=by
 unfold qj;rw[hd];have:(mM ops x).contains t=true:=by simpa using hu
 simp only[this,Bool.or_true,Bool.true_or]
theorem IS {x y:Oper} {ex ey:cR} {b:Nat} (hd:b∈ids ex.wr) (hu:b∈ids ey.wr∨b∈ey.rd):qj ops x y ex ey=true:=by
 unfold qj;have:((ids ex.wr).any (fun b=>(ids ey.wr).contains b||ey.rd.contains b))=true:=List.any_eq_true.2 ⟨b,hd,by simpa using hu⟩;rw[this];simp
theorem Pc {x y:Oper} {ex ey:cR} {b:Nat} (hd:b∈ids ey.wr) (hu:b∈ex.rd):qj ops x y ex ey=true:=by
 unfold qj;have:(ex.rd.any (fun b=>(ids ey.wr).contains b))=true:=List.any_eq_true.2 ⟨b,hu,by simpa using hd⟩;rw[this];simp
def rD (E:Nat->Bool) (j:Nat):Nat->Bool:=fun k=>k==j||E k
theorem jW {E:Nat->Bool} {j k:Nat} (h:k≠j):rD E j k=E k:=by simp[rD,h]
theorem rE {E:Nat->Bool} {j:Nat}:rD E j j=true:=by simp[rD]
section
variable {E:Nat->Bool} {j:Nat} (h:jG ops aV=true) (hE:qo ops E) (vC:qo ops (rD E j)) (hj:j<ops.length) (GM:E j=false)
include h hE vC hj GM
theorem EU {k:Nat} (hk:k<j) (hc:qj ops (ops.getD k default) (ops.getD j default) (aV.getD k {}) (aV.getD j {})=true):E k=true:=by
 have:=ordered h vC hk hj rE hc;rwa[jW (by omega)]at this
theorem rF {k:Nat} (hk:j<k) (Us:k<ops.length) (hc:qj ops (ops.getD j default) (ops.getD k default) (aV.getD j {}) (aV.getD k {})=true):E k=false:=by
 cases hx:E k with
 | false=>rfl
 | true=>have:=ordered h hE hk Us hx hc;rw[this]at GM;cases GM
theorem J3:∀t∈mM ops (ops.getD j default),(dz st ops aV E ops.length).tmps.getD t .af=(dz st ops aV (fun _=>true) j).tmps.getD t .af:=by
 intro t ht;rw[List.getD_eq_getElem?_getD,List.getD_eq_getElem?_getD,<-nE (fun _=>true) ops.length (Nat.le_of_lt hj)];congr 1;refine oy _ fun k hk hd=>?_
 rcases Nat.lt_trichotomy k j with h1|h1|h1
 ·rw[EU h hE vC hj GM h1 (IQ hd (.inl ht))];simp[h1]
 ·subst h1;rw[GM];simp
 ·rw[rF h hE vC hj GM h1 hk (Pb hd ht)];simp;omega
theorem J4:∀b∈(aV.getD j {}).rd,look (dz st ops aV E ops.length).heap b=look (dz st ops aV (fun _=>true) j).heap b:=by
 intro b hb;unfold look;rw[<-nE (fun _=>true) ops.length (Nat.le_of_lt hj)];congr 1;refine oz _ fun k hk hd=>?_
 rcases Nat.lt_trichotomy k j with h1|h1|h1
 ·rw[EU h hE vC hj GM h1 (IS hd (.inr hb))];simp[h1]
 ·subst h1;rw[GM];simp
 ·rw[rF h hE vC hj GM h1 hk (Pc hd hb)];simp;omega
theorem Mx:(dz st ops aV E ops.length).app (ops.getD j default) (aV.getD j {})=dz st ops aV (rD E j) ops.length:=by
 have L9:∀t:Nat,((dz st ops aV E ops.length).app (ops.getD j default) (aV.getD j {})).tmps[t]?=(dz st ops aV (rD E j) ops.length).tmps[t]?:=by
  intro t;rw[nD];split
  ·rename_i hd
   rw[J1 (m:=j+1) (by omega) (fun k h1 h2 h3=>by
    rw[jW (by omega)];exact rF h hE vC hj GM (by omega) h2 (IQ hd (.inr h3)))]
   rw[dz,if_pos rE,nD,if_pos hd,(fS _ _).1,(fS _ _).1]
  ·rename_i hd
   refine oy _ fun k hk hd'=>?_
   rw[jW]
   rintro rfl
   exact hd hd'
 have hhl:∀b:Nat,((dz st ops aV E ops.length).app (ops.getD j default) (aV.getD j {})).heap[b]?=(dz st ops aV (rD E j) ops.length).heap[b]?:=by
  intro b
  by_cases hb:b∈ids (aV.getD j {}).wr
  ·rw[J2 (m:=j+1) (by omega) (fun k h1 h2 h3=>by
    rw[jW (by omega)];exact rF h hE vC hj GM (by omega) h2 (IS hb (.inl h3)))]
   rw[dz,if_pos rE];exact qk _ _ _ b (by rw[(fS _ _).2,(fS _ _).2]) hb
  ·have e1:((dz st ops aV E ops.length).app (ops.getD j default) (aV.getD j {})).heap[b]?=(dz st ops aV E ops.length).heap[b]?:=iX _ _ b hb
   rw[e1];refine oz _ fun k hk hd'=>?_
   rw[jW]
   rintro rfl
   exact hb hd'
 generalize (dz st ops aV E ops.length).app (ops.getD j default) (aV.getD j {})=s1,dz st ops aV (rD E j) ops.length=s2 at *;cases s1;cases s2;simp only[St.mk.injEq];exact⟨List.ext_getElem? L9,List.ext_getElem? hhl⟩
end
def left (E:Nat->Bool):Nat->Nat
 | 0=>0
 | n+1=>left E n+if E n then 0 else 1
theorem EV {E:Nat->Bool} {j:Nat} (GM:E j=false):∀n,(n<=j->left (rD E j) n=left E n)/\(j<n->left (rD E j) n+1=left E n)
 | 0=>⟨fun _=>rfl,fun h=>by omega⟩
 | n+1=>by
  obtain⟨h1,h2⟩:=EV GM n;refine⟨fun h=>?_,fun h=>?_⟩
  ·rw[left,left,h1 (by omega),jW (by omega)]
  ·rw[left,left]
   by_cases hjn:n=j
   ·subst hjn
    rw[h1 (Nat.le_refl _),rE,GM];simp
   ·rw[jW hjn,<-h2 (by omega)];omega
theorem AG {E:Nat->Bool}:∀n,left E n=0->∀k,k<n->E k=true
 | 0,_,k,hk=>by omega
 | n+1,h,k,hk=>by
  rw[left]at h
  by_cases Us:k=n
  ·subst Us
   cases hx:E k with
   | true=>rfl
   | false=>rw[hx]at h;simp at h
  ·exact AG n (by omega) k (by omega)
theorem lV:∀(l:List Oper) (k:Nat),k<l.length->bG C (l.take (k+1))=bG C (l.take k)+slotsOf C (l.getD k default).op
 | o::l,0,_=>by simp[bG]
 | o::l,k+1,h=>by
  have:=lV l k (by simpa using h);simp only[List.take_succ_cons,bG,List.getD_cons_succ]at this ⊢;omega
theorem lW:∀(l:List Oper) (k j:Nat),k<=j->bG C (l.take k)<=bG C (l.take j)
 | [],k,j,_=>by simp
 | o::l,0,j,_=>by simp[bG]
 | o::l,k+1,j+1,h=>by
  have:=lW l k j (by omega);simp only[List.take_succ_cons,bG];omega
end
section
variable {P:Program} {C:eA} {K:Ctx} {ops:List Oper} {aV:List cR} {st Pd:St} {n0:Nat} {Q:bq->St->Prop}
structure IT (C:eA) (K:Ctx) (ops:List Oper) (aV:List cR) (Pd:St) (s0:Nat) (E:Nat->Bool) (a:Act) (w:World):Prop where
 dA:qo ops E
 sat:∃β S,Sat K β S (dz Pd ops aV E ops.length) a w/\∀k,k<ops.length->E k=false->∀s,s0+bG C (ops.take k)<=s->s<s0+bG C (ops.take k)+slotsOf C (ops.getD k default).op->s<Pd.heap.length/\β s=none
def mS (ch:Array Bool):Nat->Bool:=fun k=>ch.getD k false
theorem rG {ch:Array Bool} {j:Nat} (hj:j<ch.size):mS (ch.setIfInBounds j true)=rD (mS ch) j:=by
 funext k;show(ch.setIfInBounds j true).getD k false=(k==j||ch.getD k false)
 rw[Array.getD_eq_getD_getElem?,Array.getD_eq_getD_getElem?,Array.getElem?_setIfInBounds]
 by_cases h:j=k
 ·subst h;simp[hj]
 ·rw[if_neg h]
  have:(k==j)=false:=by simp;omega
  rw[this,Bool.false_or]
theorem tH {ch:Array Bool} {j:Nat} (hl:ch.size=ops.length):j∈Region.ready .any ops.toArray ch↔j<ops.length/\mS ch j=false/\∀e∈(ops.getD j default).after.toList,Region.binds .any e=true->mS ch e.on=true:=by
 unfold Region.ready mS;rw[List.mem_filter,List.mem_range];simp only[List.size_toArray,Bool.and_eq_true,Bool.not_eq_true'];constructor
 ·rintro⟨h1,h2,h3⟩
  refine⟨h1,?_,fun e he hb=>?_⟩
  ·rw[Array.getD_eq_getD_getElem?,Array.getElem?_eq_getElem (by omega)]at h2 ⊢;exact h2
  ·have e1:ops.toArray[j]?=some (ops.getD j default):=by simp[List.getElem?_eq_getElem h1]
   rw[e1]at h3;simp only[Option.map_some,Option.getD_some]at h3;have:=(Array.all_eq_true'.1 h3) e (by simpa using he);simpa[hb]using this
 ·rintro⟨h1,h2,h3⟩
  refine⟨h1,?_,?_⟩
  ·rw[Array.getD_eq_getD_getElem?,Array.getElem?_eq_getElem (by omega)]at h2 ⊢;exact h2
  ·have e1:ops.toArray[j]?=some (ops.getD j default):=by simp[List.getElem?_eq_getElem h1]
   rw[e1];simp only[Option.map_some,Option.getD_some];refine Array.all_eq_true'.2 fun e he=>?_
   cases hb:Region.binds .any e with
   | false=>rfl
   | true=>simpa using h3 e (by simpa using he) hb
theorem CZ {ch:Array Bool} (hl:ch.size=ops.length) (je:jG ops aV=true) (h:Region.ready .any ops.toArray ch=[]):∀k,k<ops.length->mS ch k=true:=by
 intro k
 induction k using Nat.strongRecOn with
 | _ k ih=>
  intro hk;cases hx:mS ch k with
  | true=>rfl
  | false=>
   have:k∈Region.ready .any ops.toArray ch:=(tH hl).2 ⟨hk,hx,fun e he hb=>ih e.on (uM je hk e he hb) (by have:=uM je hk e he hb;omega)⟩;rw[h]at this;cases this
theorem EW {E:Nat->Bool} (h:∀k,k<ops.length->E k=true):∀m,m<=ops.length->dz st ops aV E m=dz st ops aV (fun _=>true) m
 | 0,_=>rfl
 | m+1,hm=>by
  rw[dz,dz,EW h m (by omega),h m (by omega)]
theorem My (hC:bC P C) {s0:Nat} (je:jG ops aV=true) (dR:∀i,i<ops.length->fF P C ops (s0+bG C (ops.take i)) (ops.getD i default) (dz Pd ops aV (fun _=>true) i) (·=aV.getD i {}))
  (hQ:Q .normal (dz Pd ops aV (fun _=>true) ops.length)) :
  ∀(fuel:Nat) (ch:Array Bool) (a:Act) (w:World),ch.size=ops.length->left (mS ch) ops.length<=fuel->IT C K ops aV Pd s0 (mS ch) a w->wpAny P .any ops.toArray (Mr K Q) fuel ch a w:=by
 have done:∀(ch:Array Bool) (a:Act) (w:World),(∀k,k<ops.length->mS ch k=true)->IT C K ops aV Pd s0 (mS ch) a w->Mr K Q .normal a w:=by
  intro ch a w jA hinv;obtain⟨β,S,hs,_⟩:=hinv.sat;rw[EW jA _ (Nat.le_refl _)]at hs;exact⟨.normal,_,rfl,hQ,β,S,hs⟩
 intro fuel
 induction fuel with
 | zero=>
  intro ch a w hl hf hinv;have jA:=AG ops.length (by omega:left (mS ch) ops.length=0);refine⟨?_,done ch a w jA hinv⟩;rw[List.eq_nil_iff_forall_not_mem];intro j hj;obtain⟨h1,h2,_⟩:=(tH hl).1 hj;rw[jA j h1]at h2;cases h2
 | succ fuel ih=>
  intro ch a w hl hf hinv;refine⟨fun hr=>done ch a w (CZ hl je hr) hinv,fun j hj=>?_⟩;obtain⟨h1,h2,h3⟩:=(tH hl).1 hj;obtain⟨β,S,hs,jT⟩:=hinv.sat;have vC:qo ops (rD (mS ch) j):=by
   intro k hk J5 e he hb;unfold rD at J5 ⊢;rw[Bool.or_eq_true]at J5 ⊢;rcases J5 with J5|J5
   ·have:k=j:=by simpa using J5
    subst this;exact .inr (h3 e he hb)
   ·exact .inr (hinv.dA k hk J5 e he hb)
  have IU:fF P C ops (s0+bG C (ops.take j)) (ops.getD j default) (dz Pd ops aV (mS ch) ops.length) (·=aV.getD j {}):=
   ER (J3 je hinv.dA vC h1 h2) (J4 je hinv.dA vC h1 h2) (dR j h1)
  have aal:=Mx (st:=Pd) je hinv.dA vC h1 h2;unfold wpOp;have e1:ops.toArray[j]?=some (ops.getD j default):=by simp[List.getElem?_eq_getElem h1]
  rw[e1];refine wH hC hs (fun s q1 q2=>by
   obtain⟨r1,r2⟩:=jT j h1 h2 s q1 q2;exact⟨by rw[(fS _ _).2];exact r1,r2⟩) IU fun e w' v β' S' he sW hβ'=>?_
  subst he;rw[aal]at sW;refine ih _ _ _ (by simpa using hl) ?_ ⟨?_,β',S',?_,fun k hk J5 s q1 q2=>?_⟩
  ·rw[rG (by omega)]
   have:=(EV h2 ops.length).2 h1;omega
  ·rw[rG (by omega)];exact vC
  ·rw[rG (by omega)];exact sW
  ·rw[rG (by omega)]at J5
   have Yf:k≠j:=by rintro rfl;rw[rE]at J5;cases J5
   rw[jW Yf]at J5;obtain⟨r1,r2⟩:=jT k hk J5 s q1 q2;refine⟨r1,?_⟩;rw[hβ' s]
   ·exact r2
   ·rcases Nat.lt_trichotomy k j with h4|h4|h4
    ·left
     have:=lW (C:=C) ops (k+1) j (by omega);rw[lV ops k hk]at this;omega
    ·exact absurd h4 Yf
    ·right
     have:=lW (C:=C) ops (j+1) k (by omega);rw[lV ops j h1]at this;omega
theorem Mz (l:List Oper) (k:Nat) (hk:k<l.length):bG C (l.take k)+slotsOf C (l.getD k default).op<=bG C l:=by
 rw[<-lV l k hk];have:=lW (C:=C) l (k+1) l.length (by omega);rwa[List.take_length]at this
theorem dN.draw (hC:bC P C) (eY:P.follows .mixedOrders=true) {id:Nat} {ops:Array Oper}
  (hk:wJ P C ops.toList ops.toList st.heap.length (st.ext (bG C ops.toList)) [] fun aV tE=>jG ops.toList aV=true/\Q .normal tE):dN P n0 (.region id ops true) st Q:=by
 obtain⟨es,h1,h2,h3,h4⟩:=ES _ _ _ _ _ hk;rw[List.nil_append]at h3;intro K hn β S a w h;refine wp_region_any eY ?_;have:=My (K:=K) (Q:=Q) hC h3 h2 h4 ops.size (Array.replicate ops.size false) a { w with drawn:=w.drawn+1 } (by simp) ?_ ⟨?_,β,S,?_,?_⟩
 ·simpa using this
 ·have:∀(E:Nat->Bool) m,left E m<=m:=by
   intro E m
   induction m with
   | zero=>exact Nat.le_refl _
   | succ m ih=>rw[left];split<;>omega
  simpa using this _ ops.toList.length
 ·intro k hk hE
  unfold mS at hE;rw[Array.getD_eq_getD_getElem?,Array.getElem?_replicate]at hE;split at hE<;>simp at hE
 ·have e1:∀m,dz (st.ext (bG C ops.toList)) ops.toList es (mS (Array.replicate ops.size false)) m=st.ext (bG C ops.toList):=by
   intro m
   induction m with
   | zero=>rfl
   | succ m ih=>
    have:mS (Array.replicate ops.size false) m=false:=by
     unfold mS;rw[Array.getD_eq_getD_getElem?,Array.getElem?_replicate];split<;>rfl
    rw[dz,this,ih];rfl
  rw[e1];exact(h.ext _).drawn _
 ·intro k hk _ s q1 q2
  refine⟨?_,?_⟩
  ·have:=Mz (C:=C) ops.toList k hk
   simp[St.ext];omega
  ·cases hx:β s with
   | none=>rfl
   | some R=>have:=h.top s R hx;omega
end
structure St.Eg (n0:Nat) (ρ:Nat->Nat) (s s':St):Prop where
 len:s'.tmps.length=s.tmps.length
 tmps:∀(i:Nat) (x:AV),s'.tmps[i]?=some x->x=.af∨x.aJ/\s.tmps[i]?=some (x.aw ρ)
 heap:∀b ao,look s'.heap b=some ao->look s.heap (ρ b)=some (ao.aw ρ)
 inj:∀b b' ao dj,look s'.heap b=some ao->look s'.heap b'=some dj->ρ b=ρ b'->b=b'
 fix:∀b,b<n0->ρ b=b
section
variable {β:Nat->Option bZ} {S:Place} {w:World} {n:Nat} {ρ:Nat->Nat}
theorem dv.aw {c:Cell} {v:Value} (h:dv β S w (c.aw ρ) v) (hb:c.aO n=true):dv (fun b=>if b<n then β (ρ b) else none) S w c v:=by
 cases c with
 | t x=>cases h with|t h=>exact .t h
 | ptr b r c=>cases h with|ptr R h=>exact .ptr R (by simp only[Cell.aO,decide_eq_true_eq]at hb;rw[if_pos hb];exact h)
 | tp row c=>cases h with|tp cb co val h=>exact .tp cb co val h
 | sl b off len cp=>cases h with|sl R base cap h h1 h2 h3 h4 h5=>exact .sl R base cap (by simp only[Cell.aO,decide_eq_true_eq]at hb;rw[if_pos hb];exact h) h1 h2 h3 h4 h5
 | mp b=>cases h with|mp R h=>exact .mp R (by simp only[Cell.aO,decide_eq_true_eq]at hb;rw[if_pos hb];exact h)
 | dA f aN=>
  cases h with
  | dA vs h1 h2=>
   refine .dA vs (by rw[h1,List.length_map]) fun i b r c hi=>?_
   obtain⟨R,e1,e2⟩:=h2 i (ρ b) r c (by rw[List.getElem?_map,hi];rfl);have:=List.all_eq_true.1 hb _ (List.mem_of_getElem? hi);exact⟨R,by rw[if_pos (by simpa using this)];exact e1,e2⟩
theorem aI.aw {x:AV} {v:Value} (h:aI β S w (x.aw ρ) v) (ht:x.aJ) (hb:x.aO n=true):aI (fun b=>if b<n then β (ρ b) else none) S w x v:=by
 cases x with
 | c x=>cases h with|c h=>exact .c (h.aw (by simpa[AV.aO]using hb))
 | agg l=>
  cases h with
  | agg vs h1 h2=>
   refine .agg vs (by rw[h1,List.length_map]) fun i c hi=>?_
   obtain⟨v,e1,e2⟩:=h2 i (c.aw ρ) (by rw[List.getElem?_map,hi];rfl);simp only[AV.aO]at hb;exact⟨v,e1,e2.aw (List.all_eq_true.1 hb c (List.mem_of_getElem? hi))⟩
 | pN l=>exact ht.elim
 | af=>exact .af v
theorem aA.C2 {ao:aA} {R:bZ}:(ao.aw ρ).ext R=ao.ext R:=by
 cases ao<;>(funext b o;simp[aA.aw,aA.ext])
theorem aA.Su {ao:aA} {R:bZ}:(ao.aw ρ).wr R=ao.wr R:=by
 cases ao<;>(funext b o;simp[aA.aw,aA.wr])
theorem Sat.aw {K:Ctx} {n0:Nat} {s s':St} {a:Act} (h:Sat K β S s a w) (hl:s.Eg n0 ρ s') (hb:s'.aO=true) (hn:∀i R,K.β0 i=some R->i<n0) (hk:n0<=s'.heap.length) :
  Sat K (fun b=>if b<s'.heap.length then β (ρ b) else none) S s' a w:=by
 simp only[St.aO,Bool.and_eq_true]at hb;refine⟨by rw[hl.len];exact h.len,h.defers,fun t x ht=>?_,fun b R hR=>?_,fun b ao g8=>?_,fun b b' ao dj R R' dh h1 h2 hR ia=>?_,h.sT,h.sin,h.sub,h.jM,fun i R hi=>by
  rw[if_pos (Nat.lt_of_lt_of_le (hn i R hi) hk),hl.fix i (hn i R hi)];exact h.arg i R hi⟩
 ·rcases hl.tmps t x ht with rfl|⟨h1,hx⟩
  ·exact .af _
  ·exact(h.tmps t _ hx).aw h1 (List.all_eq_true.1 hb.1 x (List.mem_of_getElem? ht))
 ·split at hR
  ·assumption
  ·cases hR
 ·obtain⟨R,e1,e2,e3,e4⟩:=h.ao _ _ (hl.heap b ao g8)
  have bJ:=tj g8;rw[aA.C2]at e3;rw[aA.Su]at e4;refine⟨R,by rw[if_pos bJ];exact e1,?_,e3,e4⟩;cases ao with
  | var cells=>
   simp only[aA.aw,eH,List.length_map]at e2;refine⟨e2.1,fun j c hj=>?_⟩;obtain⟨v,f1,f2⟩:=e2.2 j (c.aw ρ) (by rw[List.getElem?_map,hj];rfl);have hm:some (aA.var cells)∈s'.heap:=by
    unfold look at g8;cases hx:s'.heap[b]? with
    | none=>rw[hx]at g8;cases g8
    | some y=>rw[hx]at g8;simp at g8;subst g8;exact List.mem_of_getElem? hx
   have:=List.all_eq_true.1 hb.2 _ hm;simp only[aA.aO]at this;exact⟨v,f1,f2.aw (List.all_eq_true.1 this c (List.mem_of_getElem? hj))⟩
  | rows sz rows g fz=>exact e2
  | map de=>exact e2
  | gL sz rows=>exact e2
 ·have l1:=tj h1
  have l2:=tj h2;rw[if_pos l1]at hR;rw[if_pos l2]at ia;have:=h.mK (ρ b) (ρ b') _ _ R R' (fun e=>dh (hl.inj b b' _ _ h1 h2 e)) (hl.heap _ _ h1) (hl.heap _ _ h2) hR ia;rw[aA.C2,aA.C2]at this;exact this
end
theorem dN.Pe {P:Program} {n0:Nat} {c:Code} {st:St} {Q:bq->St->Prop} (h:dN P n0 c st fun e s=>Q e s∨∃ρ s',s.Eg n0 ρ s'/\s'.aO=true/\n0<=s'.heap.length/\Q e s'):dN P n0 c st Q:=fun K hn β S a w hs=>
 wp_mono (h K hn β S a w hs) fun e a' w' ⟨x,s,h1,h2,β',S',h5⟩=>by
  rcases h2 with h2|⟨ρ,s',h2,h3,hk,h4⟩
  ·exact⟨x,s,h1,h2,β',S',h5⟩
  ·exact⟨x,s',h1,h4,_,S',h5.aw h2 h3 hn hk⟩
def bd (ρ:Nat->Nat):List AV->List AV->Prop
 | [],[]=>True
 | x::xs,y::ys=>(y=.af∨y.aJ/\x=y.aw ρ)/\bd ρ xs ys
 | _,_=>False
def ak:List (Nat×Nat)->Nat->Nat
 | [],b=>b
 | (x,y)::l,b=>if b=x then y else ak l b
def bf (ρ:Nat->Nat) (h:bU):Nat->bU->Prop
 | _,[]=>True
 | i,y::ys=>(match y with|none=>True|some b=>look h (ρ i)=some (b.aw ρ))/\bf ρ h (i+1) ys
def aF (ρ:Nat->Nat):Nat->bU->List Nat
 | _,[]=>[]
 | i,none::ys=>aF ρ (i+1) ys
 | i,some _::ys=>ρ i::aF ρ (i+1) ys
theorem AH {ρ:Nat->Nat}:∀ {xs ys:List AV},bd ρ xs ys->ys.length=xs.length/\∀(i:Nat) (y:AV),ys[i]?=some y->y=.af∨y.aJ/\xs[i]?=some (y.aw ρ)
 | [],[],_=>⟨rfl,by simp⟩
 | x::xs,y::ys,h=>by
  obtain⟨h1,h2⟩:=h;obtain⟨h3,h4⟩:=AH h2;refine⟨by simp[h3],fun i z hz=>?_⟩;cases i with
  | zero=>
   simp at hz;subst hz;rcases h1 with h|⟨h,h'⟩
   ·exact .inl h
   ·exact .inr ⟨h,by simp[h']⟩
  | succ i=>simpa using h4 i z (by simpa using hz)
theorem AI {ρ:Nat->Nat} {h:bU}:∀ {ys:bU} {i:Nat},bf ρ h i ys->∀(j:Nat) (b:aA),look ys j=some b->look h (ρ (i+j))=some (b.aw ρ)
 | [],i,_,j,b,hb=>by simp[look]at hb
 | y::ys,i,⟨h1,h2⟩,j,b,hb=>by
  cases j with
  | zero=>simp[look]at hb;subst hb;exact h1
  | succ j=>
   have:=AI h2 j b (by simpa[look]using hb);rw[show i+(j+1)=i+1+j by omega];exact this
theorem tI {ρ:Nat->Nat}:∀ {ys:bU} {i:Nat} (j:Nat) (b:aA),look ys j=some b->ρ (i+j)∈aF ρ i ys
 | [],i,j,b,hb=>by simp[look]at hb
 | y::ys,i,j,b,hb=>by
  cases j with
  | zero=>simp[look]at hb;subst hb;exact .head _
  | succ j=>
   have:=tI (ρ:=ρ) (i:=i+1) j b (by simpa[look]using hb);rw[show i+(j+1)=i+1+j by omega];cases y with
   | none=>exact this
   | some y=>exact .tail _ this
theorem AJ {ρ:Nat->Nat}:∀ {ys:bU} {i:Nat},(aF ρ i ys).Nodup->∀(j j':Nat) (b b':aA),look ys j=some b->look ys j'=some b'->ρ (i+j)=ρ (i+j')->j=j'
 | [],i,_,j,j',b,b',hb,_,_=>by simp[look]at hb
 | y::ys,i,hn,j,j',b,b',hb,bQ,he=>by
  have ht:(aF ρ (i+1) ys).Nodup:=by
   cases y with
   | none=>exact hn
   | some y=>exact(List.nodup_cons.1 hn).2
  cases j with
  | zero=>
   cases j' with
   | zero=>rfl
   | succ j'=>
    simp[look]at hb;subst hb;have:=tI (ρ:=ρ) (i:=i+1) j' b' (by simpa[look]using bQ);rw[show i+1+j'=i+(j'+1) by omega,<-he]at this;exact absurd this (List.nodup_cons.1 hn).1
  | succ j=>
   cases j' with
   | zero=>
    simp[look]at bQ;subst bQ;have:=tI (ρ:=ρ) (i:=i+1) j b (by simpa[look]using hb);rw[show i+1+j=i+(j+1) by omega,he]at this;exact absurd this (List.nodup_cons.1 hn).1
   | succ j'=>
    have:=AJ ht j j' b b' (by simpa[look]using hb) (by simpa[look]using bQ) (by rw[show i+1+j=i+(j+1) by omega,show i+1+j'=i+(j'+1) by omega];exact he);omega
theorem Hr {n0:Nat} {s s':St} (m:List (Nat×Nat)) (h1:bd (ak m) s.tmps s'.tmps) (h2:bf (ak m) s.heap 0 s'.heap) (h3:(aF (ak m) 0 s'.heap).Nodup) (h4:∀p∈m,n0<=p.1):s.Eg n0 (ak m) s':=by
 obtain⟨a,b⟩:=AH h1;refine⟨a,b,fun b ao hb=>?_,fun b b' ao dj hb bQ he=>?_,fun b hb=>?_⟩
 ·have:=AI h2 b ao hb;rwa[Nat.zero_add]at this
 ·exact AJ h3 b b' ao dj hb bQ (by rw[Nat.zero_add,Nat.zero_add];exact he)
 ·have:∀l:List (Nat×Nat),(∀p∈l,n0<=p.1)->ak l b=b:=by
   intro l
   induction l with
   | nil=>intro _;rfl
   | cons p l ih=>
    intro h;obtain⟨x,y⟩:=p;have:=h (x,y) (.head _);simp only[ak];rw[if_neg (by simp at this;omega)];exact ih fun p hp=>h p (.tail _ hp)
  exact this m h4
theorem ff.ry {P:Program} {C:eA} {f:FuncId} (hC:bC P C) {fn:Func} {c:Code} {s s':St} (jx:P.funcs[f]?=some fn) (fg:(fn.name == "runtime.NumGoroutine")=false) (dD:fn.body=some c)
  (di:dN P s.heap.length c ⟨s.tmps++List.replicate (fn.ntmps-s.tmps.length) .af,s.heap⟩ fun e s2=>(e=.normal∨e=.ret)/\∃bL ρ,fn.results.toList.mapM (gH C s2)=some bL/\(St.mk bL s2.heap).Eg s.heap.length ρ s'/\s'.aO=true/\s.heap.length<=s'.heap.length):ff P f s s':=by
 refine⟨⟨fn,jx,by rw[dD];rfl,fg⟩,fun K β S a w hK hs=>?_⟩;refine calls_of_wp jx dD ?_;refine wp_mono (di K hK β S _ w ?_) fun e a' w' ⟨x,s2,hx,⟨Sr,bL,ρ,eL,hle,Sv,hlen⟩,β',S1,AK⟩=>?_
 ·refine⟨by simp[hs.len],rfl,fun t x ht=>?_,hs.top,hs.ao,hs.mK,hs.sT,hs.sin,hs.sub,hs.jM,hs.arg⟩
  simp only at ht;rw[List.getElem?_append]at ht;split at ht
  ·rename_i bJ
   have:=hs.tmps t x ht;rw[Array.getD_eq_getD_getElem?]at this ⊢;rw[Array.getElem?_append,if_pos (by rw[hs.len];exact bJ)];exact this
  ·rw[List.getElem?_replicate]at ht
   split at ht
   ·cases ht;exact .af _
   ·cases ht
 ·obtain⟨vs,r1,r2,r3⟩:=jU (P:=P) hC AK eL
  have hs3:Sat K β' S1 ⟨bL,s2.heap⟩ { a with tmps:=vs.toArray } w':=by
   refine⟨by simp[r2],hs.defers,fun t x ht=>?_,AK.top,AK.ao,AK.mK,AK.sT,AK.sin,AK.sub,AK.jM,AK.arg⟩;obtain⟨v,e1,e2⟩:=r3 t x ht;have:({ a with tmps:=vs.toArray }:Act).tmps.getD t undef=v:=by simp[e1]
   rw[this];exact e2
  have hs4:=hs3.aw hle Sv hK hlen;have eU:∃v,(results fn a'.tmps).run P w'=.ok v w'/\∃(us:List Value) (β':Nat->Option bZ) (S':Place),Ending.returned v=.returned (if us.length=1 then us.getD 0 undef else .tuple us.toArray)/\us.length=s'.tmps.length/\Sat K β' S' s' { a with tmps:=us.toArray } w':=
   ⟨_,r1,vs,_,S1,rfl,by rw[r2,hle.len],hs4⟩
  cases e with
  | normal=>exact⟨AK.defers,eU⟩
  | ret=>exact⟨AK.defers,eU⟩
  | exit id=>cases hx;rcases Sr with h|h<;>cases h
  | goto=>cases hx
  | panic=>cases hx
  | outgrown=>cases hx
def Pf (heap:bU):AV->Option (AV×bU)
 | .c (.sl b off len cp)=>match look heap b with
  | some (.var cells)=>match bS (look heap) cells with
   | some (ts,m)=>if off+len<=cells.length then some (.c (.t (.aa cp (((ts.drop off).take len).map fun t=>[t]))),eR heap (m ++ [(b,none)])) else none
   | none=>none
  | _=>some (.c (.sl b off len cp),heap)
 | x=>some (x,heap)
def MA:bU->List AV->Option (List AV×bU)
 | h,[]=>some ([],h)
 | h,x::xs=>match Pf h x with
  | some (y,h1)=>match MA h1 xs with
   | some (ys,h2)=>some (y::ys,h2)
   | none=>none
  | none=>none
def vD (C:eA) (st:St) (args:List Arg) (Lz:List ResultVar) (om:List Mode):Option ko:=
 match Lz.mapM (gH C st) with
 | none=>none
 | some bL=>match MA st.heap bL with
  | some (qp,eV)=>rv eV qp args om
  | none=>none
section
variable {P:Program} {C:eA} {K:Ctx} {β:Nat->Option bZ} {S:Place} {a:Act} {w:World} {f:FuncId} {tm:List AV}
theorem EX {heap eV:bU} (h:Sat K β S ⟨tm,heap⟩ a w) {x x':AV} {v:Value} (hx:aI β S w x v) (hf:Pf heap x=some (x',eV)) :
  ∃S',(∀c o,S c o->S' c o)/\Sat K β S' ⟨tm,eV⟩ a w/\aI β S' w x' v:=by
 unfold Pf at hf;split at hf
 ·rename_i b off len cp
  split at hf
  ·rename_i cells hb
   split at hf
   ·rename_i ts m ht
    split at hf
    ·rename_i hle
     cases hf;obtain⟨S1,QO,h1⟩:=h.Mi hb ht;have Mf:=tj hb;have mZ:look (eR heap (m ++ [(b,some (.var (ts.map .t)))])) b=some (.var (ts.map .t)):=by
      rw[GJ];exact An (by rw[L0];exact Mf) _
     obtain⟨S2,QP,h2,jc⟩:=Sat.Az (st:=⟨tm,eR heap (m ++ [(b,some (.var (ts.map .t)))])⟩) h1 mZ;have jN:(eR heap (m ++ [(b,some (.var (ts.map .t)))])).set b none=eR heap (m ++ [(b,none)]):=by
      rw[GJ,GJ];show((eR heap m).set b _).set b none=(eR heap m).set b none
      rw[List.set_set]
     rw[jN]at h2;refine⟨S2,fun c o hs=>QP _ _ (QO _ _ hs),h2,?_⟩;cases hx with|c hx=>
     cases hx with|sl R base cap hR g1 g2 g3 g4 g5=>
     obtain⟨R',ia,⟨⟨vy,dR,Ha⟩,GK⟩,_,_⟩:=h1.ao b _ mZ;rw[hR]at ia;cases ia;have hlen:ts.length=cells.length:=by
      obtain⟨wi,mQ,⟨_,aao⟩,_,_⟩:=h.ao b _ hb;obtain⟨vs,Lp⟩:∃vs:List Value,vs=(List.range cells.length).map fun j=>(w.cell? ⟨wi.cb,wi.co+j,none⟩).getD undef:=⟨_,rfl⟩
      obtain⟨_,_,_,_,hl,_⟩:=gF (st:=⟨tm,heap⟩) cells vs heap S ts m h (eJ.refl _) (by rw[Lp];simp) (fun i c hi=>by
       obtain⟨v,e1,e2⟩:=aao i c hi;have bJ:=(List.getElem?_eq_some_iff.1 hi).1;exact⟨v,by rw[Lp,List.getElem?_map,List.getElem?_range bJ,Option.map_some,e1];rfl,e2⟩) ht
      exact hl
     have yv:(((ts.drop off).take len).map fun t=>[t]).length=len:=by rw[List.length_map,List.length_take,List.length_drop];omega
     have key:=dX.aa (S:=S2) (w:=w) cp (((ts.drop off).take len).map fun t=>[t]) base R.cb (R.co+off) 1 cap (fun i _=>(w.cell? ⟨R.cb,R.co+off+i,none⟩).getD undef)
      (by omega) (by omega) (by omega) (fun hc=>by rw[yv];exact g1 hc) (fun dh=>?_) (fun hn=>?_) (fun r hr=>?_) (fun i j t Ed=>?_) (fun i j t Ed=>?_)
     ·rw[yv]at key
      exact .c (.t key)
     ·have:0<len:=by
       rcases Nat.eq_zero_or_pos len with h0|h0
       ·exact absurd (List.length_eq_zero_iff.1 (by rw[yv,h0])) dh
       ·exact h0
      rw[g5 (by omega),dR,Nat.mul_one]
     ·rcases Nat.eq_zero_or_pos cap with h0|h0
      ·exact h0
      ·rw[g5 h0]at hn;cases hn
     ·obtain⟨t,_,rfl⟩:=List.mem_map.1 hr;rfl
     all_goals
      obtain⟨row,dk,hj⟩:=Option.bind_eq_some_iff.1 Ed;rw[List.getElem?_map]at dk;obtain⟨t',mX,rfl⟩:=Option.map_eq_some_iff.1 dk;have hj0:j=0:=by
       cases j with
       | zero=>rfl
       | succ j=>simp at hj
      subst hj0;simp at hj;subst hj;have Z8:=(List.getElem?_eq_some_iff.1 mX).1;rw[List.length_take,List.length_drop]at Z8;rw[List.getElem?_take,if_pos (by omega),List.getElem?_drop]at mX;obtain⟨v,e1,e2⟩:=GK (off+i) (.t t') (by rw[List.getElem?_map,mX];rfl);rw[<-Nat.add_assoc]at e1
     ·refine⟨jc R hR _ (by omega) (by rw[List.length_map];omega),?_⟩
      rw[Nat.mul_one,Nat.add_zero,e1];rfl
     ·rw[e1]
      cases e2 with|t e2=>exact e2.mono QP fun _ _ _=>rfl
    ·cases hf
   ·cases hf
  ·cases hf;exact⟨S,fun _ _ hs=>hs,h,hx⟩
 ·cases hf;exact⟨S,fun _ _ hs=>hs,h,hx⟩
theorem EY:∀(bL:List AV) (vs:List Value) (heap eV:bU) (S:Place) (qp:List AV),Sat K β S ⟨tm,heap⟩ a w->vs.length=bL.length->(∀(i:Nat) (x:AV),bL[i]?=some x->∃v,vs[i]?=some v/\aI β S w x v)->MA heap bL=some (qp,eV) ->
  ∃S',(∀c o,S c o->S' c o)/\Sat K β S' ⟨tm,eV⟩ a w/\vs.length=qp.length/\∀(i:Nat) (x:AV),qp[i]?=some x->∃v,vs[i]?=some v/\aI β S' w x v
 | [],vs,heap,eV,S,qp,h,hl,hr,hf=>by
  simp[MA]at hf;obtain⟨rfl,rfl⟩:=hf;exact⟨S,fun _ _ hs=>hs,h,hl,by simp⟩
 | x::xs,[],_,_,_,_,_,hl,_,_=>by simp at hl
 | x::xs,v::vs,heap,eV,S,qp,h,hl,hr,hf=>by
  unfold MA at hf;split at hf
  ·rename_i y h1 hy
   split at hf
   ·rename_i ys h2 hys
    cases hf;obtain⟨v',sV,hx⟩:=hr 0 x rfl;simp at sV;subst sV;obtain⟨S1,e1,e2,e3⟩:=EX h hx hy;obtain⟨S2,f1,f2,f3,f4⟩:=EY xs vs h1 eV S1 ys e2 (by simpa using hl) (fun i z hz=>by
     obtain⟨u,q1,q2⟩:=hr (i+1) z (by simpa using hz);exact⟨u,by simpa using q1,q2.mono (fun _ _ hx=>hx) e1 fun _ _ _=>rfl⟩) hys
    refine⟨S2,fun c o hs=>f1 _ _ (e1 _ _ hs),f2,by simp[f3],fun i z hz=>?_⟩;cases i with
    | zero=>simp at hz;subst hz;exact⟨v,rfl,e3.mono (fun _ _ hx=>hx) f1 fun _ _ _=>rfl⟩
    | succ i=>simpa using f4 i z (by simpa using hz)
   ·cases hf
  ·cases hf
theorem eP.wW (hC:bC P C) {fn:Func} {c:Code} {args:List Arg} {res:ko} {om:List Mode} (jx:P.funcs[f]?=some fn) (fg:(fn.name == "runtime.NumGoroutine")=false) (dD:fn.body=some c)
  (di:dN P args.length c (gd args fn.ntmps) fun e s=>(e=.normal∨e=.ret)/\vD C s args fn.results.toList om=some res):eP P f args res:=by
 refine⟨⟨fn,jx,by rw[dD];rfl,fg⟩,fun S w aW Rs hp=>?_⟩;refine calls_of_wp jx dD ?_;have kK:=AD hp fn.ntmps;have dY:(aW.take (kM args)).toArray.size=(aW.take (kM args)).length:=by simp
 rw[dY];refine wp_mono (di _ (fun i R hi=>?_) _ S _ w kK) fun e a' w' ⟨x,s,hx,⟨Sr,gz⟩,β',S1,hs⟩=>?_
 ·simp only[βA]at hi
  split at hi
  ·rename_i h1
   obtain⟨y,hy⟩:=Option.isSome_iff_exists.1 h1;obtain⟨z,h2,_⟩:=Option.bind_eq_some_iff.1 hy;exact uz h2
  ·cases hi
 unfold vD at gz;split at gz
 ·cases gz
 ·rename_i bL Hn
  split at gz
  ·rename_i qp eV GI
   obtain⟨vs,r1,r2,r3⟩:=jU (P:=P) hC hs Hn;obtain⟨S2,q1,q2,q3,q4⟩:=EY (tm:=s.tmps) bL vs s.heap eV S1 qp hs r2 r3 GI;have EO:=IP q2 q3 q4 gz;have eU:∃v,(results fn a'.tmps).run P w'=.ok v w'/\∃u,Ending.returned v=.returned u/\fR args res S w Rs u w':=⟨_,r1,_,rfl,EO⟩;cases e with
   | normal=>exact⟨hs.defers,eU⟩
   | ret=>exact⟨hs.defers,eU⟩
   | exit id=>cases hx;rcases Sr with h|h<;>cases h
   | goto=>cases hx
   | panic=>cases hx
   | outgrown=>cases hx
  ·cases gz
end
inductive Ask where
 | a (args:List Arg)
 | h (s:St)
inductive oV where
 | a (r:ko)
 | h (s:St)
def kP (P:Program) (f:FuncId):Ask->oV->Prop
 | .a args,.a r=>eP P f args r
 | .h s,.h s'=>ff P f s s'
 | _,_=>False
def MB (C:eA) (call:FuncId->Ask->Option oV) (ops:List Oper) (slot:Nat) (o:Oper) (st:St):Option cR:=
 match iJ st.tmps ops o with
 | none=>none
 | some false=>some ru
 | some true=>
  match o.op with
  | .call { callee:=.value f,args,.. }=>
   match tD (st.get f) (args.toList.map st.get) with
   | none=>none
   | some (sX,bL)=>
    match C.md sX with
    | .sh _::_=>
     match qf (look st.heap) bL with
     | none=>none
     | some (ids,s)=>
      match call sX (.h s) with
      | some (.h s')=>wE ids slot (slotsOf C o.op) s'
      | _=>none
    | ms=>
     match eW (look st.heap) ms bL with
     | none=>none
     | some (as,marks,dV)=>
      match call sX (.a as) with
      | some (.a res)=>gO (look st.heap) slot marks dV res
      | _=>none
  | op=>evalOp C slot st.get (look st.heap) op
def rH (C:eA) (call:FuncId->Ask->Option oV) (ops:List Oper):List Oper->Nat->St->List cR->Option (List cR×St)
 | [],_,st,tr=>some (tr,st)
 | o::os,slot,st,tr=>
  match MB C call ops slot o st with
  | some e=>rH C call ops os (slot+slotsOf C o.op) (st.app o e) (tr ++ [e])
  | none=>none
def MC (ops:List Oper) (x y:Oper):Bool:=
 (match x.dst with|some d=>(mM ops y).contains d||y.dst==some d|none=>false) ||
 (match y.dst with|some d=>(mM ops x).contains d|none=>false)
def EZ (ex ey:cR):Bool:=(ids ex.wr).any (fun b=>(ids ey.wr).contains b||ey.rd.contains b)||ex.rd.any fun b=>(ids ey.wr).contains b
def E0 (ops:List Oper):Bool:=
 (List.range ops.length).all fun j=>(((ops.getD j default).after.toList.all fun e=>!Region.binds .any e||decide (e.on<j))) &&
  (List.range j).all fun i=>((wU [] ops).getD j 0).testBit i || !MC ops (ops.getD i default) (ops.getD j default)
def AL (ops:List Oper) (aV:List cR):Bool:=
 (aV.all fun e=>e.wr.isEmpty)||(List.range ops.length).all fun j=>(List.range j).all fun i=>!EZ (aV.getD i {}) (aV.getD j {})||((wU [] ops).getD j 0).testBit i
theorem AM {ops:List Oper} {aV:List cR} (h1:E0 ops=true) (h2:AL ops aV=true):jG ops aV=true:=by
 have hH:∀j,j<ops.length->∀i,i<j->((wU [] ops).getD j 0).testBit i=true∨EZ (aV.getD i {}) (aV.getD j {})=false:=by
  intro j hj i hi;unfold AL at h2;rw[Bool.or_eq_true]at h2;rcases h2 with h2|h2
  ·right
   have hw:∀k,(aV.getD k {}).wr=[]:=by
    intro k;rw[List.getD_eq_getElem?_getD];cases hk:aV[k]? with
    | none=>rfl
    | some e=>simpa using List.all_eq_true.1 h2 e (List.mem_of_getElem? hk)
   simp only[EZ,hw,ids,List.map_nil,List.any_nil,Bool.false_or];rw[List.any_eq_false];simp
  ·have:=List.all_eq_true.1 (List.all_eq_true.1 h2 j (List.mem_range.2 hj)) i (List.mem_range.2 hi)
   rw[Bool.or_eq_true]at this;rcases this with h|h
   ·exact .inr (by simpa using h)
   ·exact .inl h
 unfold E0 at h1;unfold jG;refine List.all_eq_true.2 fun j hj=>?_
 have h1j:=List.all_eq_true.1 h1 j hj;rw[Bool.and_eq_true]at h1j ⊢;refine⟨h1j.1,List.all_eq_true.2 fun i hi=>?_⟩;have h1i:=List.all_eq_true.1 h1j.2 i hi;rw[Bool.or_eq_true]at h1i ⊢;rcases h1i with h|h
 ·exact .inl h
 ·rcases hH j (List.mem_range.1 hj) i (List.mem_range.1 hi) with h'|h'
  ·exact .inl h'
  ·right
   have e1:qj ops (ops.getD i default) (ops.getD j default) (aV.getD i {}) (aV.getD j {})=(MC ops (ops.getD i default) (ops.getD j default)||EZ (aV.getD i {}) (aV.getD j {})):=by
    unfold qj MC EZ
    first
     | (simp only[Bool.or_assoc];done)
     | (simp only[Bool.or_assoc];rfl)
   rw[e1,h'];simpa using h
def dZ (C:eA) (call:FuncId->Ask->Option oV):Nat->Code->St->Option (bq×St)
 | 0,_,_=>none
 | n+1,c,st=>
  match c with
  | .skip=>some (.normal,st)
  | .ret=>some (.ret,st)
  | .exit id=>some (.exit id,st)
  | .seq x y=>
   match dZ C call n x st with
   | some (.normal,s)=>dZ C call n y s
   | r=>r
  | .region _ ops draw=>
   match rH C call ops.toList ops.toList st.heap.length (st.ext (bG C ops.toList)) []with
   | some (aV,s)=>if !draw||(E0 ops.toList&&AL ops.toList aV) then some (.normal,s) else none
   | none=>none
  | .cond c x y=>
   match(st.get c).bool? with
   | some true=>dZ C call n x st
   | some false=>dZ C call n y st
   | none=>none
  | .block id c=>
   match dZ C call n c st with
   | some (.exit Ef,s)=>if Ef=id then some (.normal,s) else some (.exit Ef,s)
   | r=>r
  | .loop c=>
   match dZ C call n c st with
   | some (.normal,s)=>dZ C call n (.loop c) s
   | r=>r
  | _=>none
def E3 (n:Nat) (heap:bU) (bL:List AV):List Nat:=
 reach (look heap) 400 (bL.flatMap AV.refs++(List.range n).flatMap fun b=>match look heap b with|some (.var cells)=>cells.flatMap Cell.refs|_=>[]) (List.range n)
def IV (n:Nat) (ids:List Nat) (heap:bU) (bL:List AV):Bool:=
 decide (ids.take n=List.range n)&&decide (n<=ids.length)&&decide ids.Nodup&&bL.all (·.fE ids)&&ids.all fun b=>match look heap b with|some (.var cells)=>cells.all (·.fE ids)|_=>true
def C4 (n:Nat) (heap:bU) (bL:List AV):Option St:=
 let ids:=E3 n heap bL
 if IV n ids heap bL then some (eX (look heap) ids bL) else none
def Sw (s:St) (ntmps:Nat):St:=⟨s.tmps++List.replicate (ntmps-s.tmps.length) .af,s.heap⟩
def vE (C:eA) (n:Nat) (s:St) (Lz:List ResultVar):Option St:=
 match Lz.mapM (gH C s) with
 | none=>none
 | some bL=>C4 n s.heap bL
def C5 (P:Program) (C:eA) (om:FuncId->List Mode) (call:FuncId->Ask->Option oV) (n:Nat) (f:FuncId) (x:Ask):Option oV:=
 match P.funcs[f]? with
 | some fn=>
  if fn.name == "runtime.NumGoroutine" then none else
  match fn.body with
  | some c=>
   match x with
   | .a args=>match dZ C call n c (gd args fn.ntmps) with
    | some (.normal,s)=>(vD C s args fn.results.toList (om f)).map .a
    | some (.ret,s)=>(vD C s args fn.results.toList (om f)).map .a
    | _=>none
   | .h s0=>match dZ C call n c (Sw s0 fn.ntmps) with
    | some (.normal,s)=>(vE C s0.heap.length s fn.results.toList).map .h
    | some (.ret,s)=>(vE C s0.heap.length s fn.results.toList).map .h
    | _=>none
  | none=>none
 | none=>none
def rJ (P:Program) (C:eA) (om:FuncId->List Mode):Nat->FuncId->Ask->Option oV
 | 0,_,_=>none
 | n+1,f,x=>C5 P C om (rJ P C om n) n f x
section
variable {P:Program} {C:eA} {call:FuncId->Ask->Option oV} {ops:List Oper} {slot:Nat} {o:Oper} {st:St} {e:cR} {n0:Nat} {Q:bq->St->Prop}
theorem E4 (cY:∀f x y,call f x=some y->kP P f x y) (h:MB C call ops slot o st=some e) {k:cR->Prop} (hk:k e):fF P C ops slot o st k:=by
 unfold MB at h;unfold fF;split at h
 ·cases h
 ·rename_i hw;cases h;simp only[hw];exact hk
 ·rename_i hw
  simp only[hw];split at h
  ·rename_i f args argTypes eQ
   split at h
   ·cases h
   ·rename_i sX bL hc
    split at h
    ·rename_i n0 Ye Ol
     split at h
     ·cases h
     ·rename_i ids s hp
      split at h
      ·rename_i s' hr
       rw[eQ]at h;simp only[eQ,hc,Ol,hp];exact⟨s',cY _ _ _ hr,by simp only[h];exact hk⟩
      ·cases h
    ·rename_i Mq
     split at h
     ·cases h
     ·rename_i as marks dV hp
      split at h
      ·rename_i res hr
       simp only[eQ,hc,hp];exact⟨res,cY _ _ _ hr,by simp only[h];exact hk⟩
      ·cases h
  ·rename_i hn
   split
   ·rename_i eQ
    exact absurd eQ (hn _ _ _)
   ·simp only[h];exact hk
theorem kt (cY:∀f x y,call f x=some y->kP P f x y):∀(os:List Oper) (slot:Nat) (st:St) (tr:List cR) {aV:List cR} {s:St} {k:List cR->St->Prop},
  rH C call ops os slot st tr=some (aV,s)->k aV s->wJ P C ops os slot st tr k
 | [],slot,st,tr,aV,s,k,h,hk=>by simp only[rH,Option.some.injEq,Prod.mk.injEq]at h;obtain⟨rfl,rfl⟩:=h;exact hk
 | o::os,slot,st,tr,aV,s,k,h,hk=>by
  unfold rH at h;split at h
  ·rename_i e he
   exact E4 cY he (kt cY os _ _ _ h hk)
  ·cases h
theorem gU (hC:bC P C) (eY:P.follows .mixedOrders=true) (cY:∀f x y,call f x=some y->kP P f x y) :
  ∀(n:Nat) (c:Code) (st:St) {x:bq} {s:St} {Q:bq->St->Prop},dZ C call n c st=some (x,s)->Q x s->dN P n0 c st Q:=by
 intro n
 induction n using Nat.strongRecOn with
 | _ n ih=>
  intro c st x s Q h hQ;cases n with
  | zero=>cases h
  | succ n=>
   cases c with
   | skip=>cases h;exact .skip hQ
   | ret=>cases h;exact .ret hQ
   | exit id=>cases h;exact .exit hQ
   | seq x y=>
    simp only[dZ]at h;refine .seq ?_;split at h
    ·rename_i s1 h1
     exact ih n (Nat.lt_succ_self n) _ _ h1 (ih n (Nat.lt_succ_self n) _ _ h hQ)
    ·rename_i r hr
     refine ih n (Nat.lt_succ_self n) _ _ h ?_;unfold VK;split
     ·exact absurd h (hr _)
     ·exact hQ
   | region id ops draw=>
    simp only[dZ]at h;split at h
    ·rename_i aV s1 h1
     split at h
     ·rename_i hd
      cases h;cases draw with
      | false=>exact .region hC (kt cY _ _ _ _ h1 hQ)
      | true=>
       simp only[Bool.not_true,Bool.false_or,Bool.and_eq_true]at hd;exact .draw hC eY (kt cY _ _ _ _ h1 ⟨AM hd.1 hd.2,hQ⟩)
     ·cases h
    ·cases h
   | cond c x y=>
    simp only[dZ]at h;split at h
    ·rename_i hb
     exact .cond hb (ih n (Nat.lt_succ_self n) _ _ h hQ)
    ·rename_i hb
     exact .cond hb (ih n (Nat.lt_succ_self n) _ _ h hQ)
    ·cases h
   | block id c=>
    simp only[dZ]at h;refine .block ?_;split at h
    ·rename_i Ef s1 h1
     refine ih n (Nat.lt_succ_self n) _ _ h1 ?_;unfold CQ;split at h
     ·rename_i JV;cases h;simp only[JV,if_true];exact hQ
     ·rename_i JV;cases h;simp only[JV,if_false];exact hQ
    ·rename_i r hr
     refine ih n (Nat.lt_succ_self n) _ _ h ?_;unfold CQ;split
     ·exact absurd h (hr _ _)
     ·exact hQ
   | loop c=>
    refine dN.loop (fun m s'=>m<=n+1/\dZ C call m (.loop c) s'=some (x,s)) (fun m s' ⟨hm,hs⟩=>?_) (n:=n+1) ⟨Nat.le_refl _,h⟩;cases m with
    | zero=>cases hs
    | succ m=>
     simp only[dZ]at hs;split at hs
     ·rename_i s1 h1
      exact ih m (by omega) _ _ h1 ⟨m,Nat.lt_succ_self m,by omega,hs⟩
     ·rename_i r hr
      refine ih m (by omega) _ _ hs ?_;unfold QX;split
      ·exact absurd hs (hr _)
      ·exact hQ
   | _=>cases h
theorem Cell.nF {ids:List Nat} {c:Cell} (h:c.fE ids=true):(c.aw fun b=>posOf b ids).aw (fun k=>ids.getD k 0)=c:=by
 have key:∀b,ids.contains b=true->ids.getD (posOf b ids) 0=b:=fun b hb=>(ny (List.contains_iff_mem.1 hb)).2
 cases c with
 | t x=>rfl
 | ptr b r c=>simp only[Cell.aw];rw[key _ h]
 | tp row c=>rfl
 | sl b off len cp=>simp only[Cell.aw];rw[key _ h]
 | mp b=>simp only[Cell.aw];rw[key _ h]
 | dA f aN=>
  simp only[Cell.aw,List.map_map,Cell.dA.injEq,true_and];refine(List.map_congr_left fun p hp=>?_).trans (List.map_id _);simp only[Function.comp];rw[key _ (List.all_eq_true.1 h p hp)];rfl
theorem AV.nF {ids:List Nat} {x:AV} (h:x.fE ids=true):(x.aw fun b=>posOf b ids).aw (fun k=>ids.getD k 0)=x/\(x.aw fun b=>posOf b ids).aJ:=by
 cases x with
 | c x=>exact⟨by simp only[AV.aw];rw[Cell.nF h],trivial⟩
 | agg l=>
  refine⟨?_,trivial⟩;simp only[AV.aw,List.map_map,AV.agg.injEq];exact(List.map_congr_left fun c hc=>Cell.nF (List.all_eq_true.1 h c hc)).trans (List.map_id _)
 | pN l=>cases h
 | af=>exact⟨rfl,trivial⟩
theorem Cell.tJ {ids:List Nat} {c:Cell} (h:c.fE ids=true):(c.aw fun b=>posOf b ids).aO ids.length=true:=by
 have key:∀b,ids.contains b=true->posOf b ids<ids.length:=fun b hb=>(ny (List.contains_iff_mem.1 hb)).1
 cases c with
 | t x=>rfl
 | ptr b r c=>exact decide_eq_true (key _ h)
 | tp row c=>rfl
 | sl b off len cp=>exact decide_eq_true (key _ h)
 | mp b=>exact decide_eq_true (key _ h)
 | dA f aN=>
  refine List.all_eq_true.2 fun p hp=>?_
  obtain⟨q,hq,rfl⟩:=List.mem_map.1 hp;exact decide_eq_true (key _ (List.all_eq_true.1 h q hq))
theorem C6 {n:Nat} {heap:bU} {bL:List AV} {s':St} (h:C4 n heap bL=some s') :
  ∃ρ,(St.mk bL heap).Eg n ρ s'/\s'.aO=true/\n<=s'.heap.length:=by
 simp only[C4]at h;split at h
 ·rename_i hc
  cases h;generalize E3 n heap bL=ids at hc;unfold IV at hc;simp only[Bool.and_eq_true,decide_eq_true_eq]at hc;obtain⟨⟨⟨⟨h1,h2⟩,h3⟩,h4⟩,h5⟩:=hc;have ha:∀x∈bL,x.fE ids=true:=List.all_eq_true.1 h4;have hb:∀b∈ids,∀ao,look heap b=some ao->(ao.aw fun b=>posOf b ids).aw (fun k=>ids.getD k 0)=ao/\(ao.aw fun b=>posOf b ids).aO ids.length=true:=by
   intro b Mm ao hl;cases ao with
   | var cells=>
    have:=List.all_eq_true.1 h5 b Mm;rw[hl]at this;refine⟨?_,?_⟩
    ·simp only[aA.aw,List.map_map,aA.var.injEq]
     exact(List.map_congr_left fun c hc=>Cell.nF (List.all_eq_true.1 this c hc)).trans (List.map_id _)
    ·refine List.all_eq_true.2 fun c hc=>?_
     obtain⟨c0,VR,rfl⟩:=List.mem_map.1 hc;exact Cell.tJ (List.all_eq_true.1 this c0 VR)
   | rows=>exact⟨rfl,rfl⟩
   | map=>exact⟨rfl,rfl⟩
   | gL=>exact⟨rfl,rfl⟩
  refine⟨fun k=>ids.getD k 0,⟨by simp[eX],fun i x hi=>?_,fun b ao g8=>?_,fun b b' ao dj mZ nk he=>?_,fun b Ut=>?_⟩,?_,by simpa[eX]using h2⟩
  ·simp only[eX,List.getElem?_map]at hi
   obtain⟨x0,e1,rfl⟩:=Option.map_eq_some_iff.1 hi;obtain⟨e2,e3⟩:=AV.nF (ha x0 (List.mem_of_getElem? e1));exact .inr ⟨e3,by rw[e2];exact e1⟩
  ·obtain⟨bJ,b0,e1,rfl⟩:=ir g8
   rw[(hb _ (iW bJ) b0 e1).1];exact e1
  ·obtain⟨bJ,_⟩:=ir mZ
   obtain⟨tx,_⟩:=ir nk;exact getD_inj h3 bJ tx he
  ·have:ids[b]?=some b:=by
    rw[<-List.getElem?_take_of_lt Ut,h1,List.getElem?_range Ut]
   rw[List.getD_eq_getElem?_getD,this];rfl
  ·simp only[St.aO,eX,Bool.and_eq_true,List.length_map]
   refine⟨List.all_eq_true.2 fun x hx=>?_,List.all_eq_true.2 fun o ho=>?_⟩
   ·obtain⟨x0,J6,rfl⟩:=List.mem_map.1 hx
    have:=ha x0 J6;cases x0 with
    | c c=>exact Cell.tJ this
    | agg l=>
     refine List.all_eq_true.2 fun c hc=>?_
     obtain⟨c0,VR,rfl⟩:=List.mem_map.1 hc;exact Cell.tJ (List.all_eq_true.1 this c0 VR)
    | pN l=>cases this
    | af=>rfl
   ·obtain⟨b,Mm,rfl⟩:=List.mem_map.1 ho
    cases hl:look heap b with
    | none=>rfl
    | some ao=>exact(hb b Mm ao hl).2
 ·cases h
theorem yA {om:FuncId->List Mode} (hC:bC P C) (eY:P.follows .mixedOrders=true) (cY:∀f x y,call f x=some y->kP P f x y) {n:Nat} {f:FuncId} {x:Ask} {y:oV} (h:C5 P C om call n f x=some y):kP P f x y:=by
 unfold C5 at h;split at h
 ·rename_i fn jx
  split at h
  ·cases h
  ·rename_i fg
   split at h
   ·rename_i c dD
    cases x with
    | a args=>
     simp only at h;split at h
     ·rename_i s h1
      obtain⟨r,h2,rfl⟩:=Option.map_eq_some_iff.1 h;exact eP.wW hC jx (by simpa using fg) dD (om:=om f) (gU hC eY cY n c _ h1 ⟨.inl rfl,h2⟩)
     ·rename_i s h1
      obtain⟨r,h2,rfl⟩:=Option.map_eq_some_iff.1 h;exact eP.wW hC jx (by simpa using fg) dD (om:=om f) (gU hC eY cY n c _ h1 ⟨.inr rfl,h2⟩)
     ·cases h
    | h s0=>
     have key:∀(e:bq) (s s':St),(e=.normal∨e=.ret)->vE C s0.heap.length s fn.results.toList=some s'->(e=.normal∨e=.ret)/\∃bL ρ,fn.results.toList.mapM (gH C s)=some bL/\(St.mk bL s.heap).Eg s0.heap.length ρ s'/\s'.aO=true/\s0.heap.length<=s'.heap.length:=by
      intro e s s' he h2;unfold vE at h2;split at h2
      ·cases h2
      ·rename_i bL eL
       obtain⟨ρ,q1,q2,q3⟩:=C6 h2;exact⟨he,bL,ρ,eL,q1,q2,q3⟩
     simp only at h;split at h
     ·rename_i s h1
      obtain⟨r,h2,rfl⟩:=Option.map_eq_some_iff.1 h;exact ff.ry hC jx (by simpa using fg) dD (gU hC eY cY n c _ h1 (key _ _ _ (.inl rfl) h2))
     ·rename_i s h1
      obtain⟨r,h2,rfl⟩:=Option.map_eq_some_iff.1 h;exact ff.ry hC jx (by simpa using fg) dD (gU hC eY cY n c _ h1 (key _ _ _ (.inr rfl) h2))
     ·cases h
   ·cases h
 ·cases h
theorem gV {om:FuncId->List Mode} (hC:bC P C) (eY:P.follows .mixedOrders=true):∀(n:Nat) (f:FuncId) (x:Ask) (y:oV),rJ P C om n f x=some y->kP P f x y
 | 0,f,x,y,h=>by cases h
 | n+1,f,x,y,h=>yA hC eY (gV hC eY n) h
end
def Sy (P:Program) (l:List (FuncId×List Mode)) (f:FuncId):List Mode:=
 match l.find? (fun p=>p.1==f) with
 | some p=>p.2
 | none=>match P.funcs[f]? with
  | some fn=>List.replicate fn.results.size .val
  | none=>[]
def rK (P:Program) (n0:Nat) (c:Code) (st:St) (Q:bq->St->Prop):Prop:=dN P n0 (.loop c) st Q
def fG (P:Program) (C:eA) (n0:Nat):Code->St->(bq->St->Prop)->Prop
 | .skip,st,Q=>Q .normal st
 | .ret,st,Q=>Q .ret st
 | .exit id,st,Q=>Q (.exit id) st
 | .seq x y,st,Q=>fG P C n0 x st fun e s=>match e with
  | .normal=>fG P C n0 y s Q
  | .exit id=>Q (.exit id) s
  | .ret=>Q .ret s
 | .region _ ops draw,st,Q=>wJ P C ops.toList ops.toList st.heap.length (st.ext (bG C ops.toList)) [] fun aV tE=>match draw with
  | false=>Q .normal tE
  | true=>match E0 ops.toList&&AL ops.toList aV with
   | true=>Q .normal tE
   | false=>False
 | .cond c x y,st,Q=>match(st.get c).bool? with
  | some true=>fG P C n0 x st Q
  | some false=>fG P C n0 y st Q
  | none=>False
 | .block id c,st,Q=>fG P C n0 c st fun e s=>match e with
  | .normal=>Q .normal s
  | .exit Ef=>if Ef=id then Q .normal s else Q (.exit Ef) s
  | .ret=>Q .ret s
 | .loop c,st,Q=>rK P n0 c st Q
 | _,_,_=>False
section
variable {P:Program} {C:eA} {ops:List Oper} {slot:Nat} {o:Oper} {st:St} {e:cR} {n0:Nat}
theorem wX {k k':cR->Prop} (h:fF P C ops slot o st k) (hk:∀e,k e->k' e):fF P C ops slot o st k':=by
 unfold fF at h ⊢;split at h
 ·exact h.elim
 ·exact hk _ h
 ·split at h
  ·split at h
   ·exact h.elim
   ·split at h
    ·split at h
     ·exact h.elim
     ·obtain⟨s',h1,h2⟩:=h
      refine⟨s',h1,?_⟩;split at h2
      ·exact hk _ h2
      ·exact h2.elim
    ·split at h
     ·exact h.elim
     ·obtain⟨res,h1,h2⟩:=h
      refine⟨res,h1,?_⟩;split at h2
      ·exact hk _ h2
      ·exact h2.elim
  ·split at h
   ·exact hk _ h
   ·exact h.elim
theorem oA:∀(os:List Oper) (slot:Nat) (st:St) (tr:List cR) {k k':List cR->St->Prop},wJ P C ops os slot st tr k->(∀t s,k t s->k' t s)->wJ P C ops os slot st tr k'
 | [],slot,st,tr,k,k',h,hk=>hk _ _ h
 | o::os,slot,st,tr,k,k',h,hk=>wX h fun e he=>oA os _ _ _ he hk
theorem fG.run (hC:bC P C) (eY:P.follows .mixedOrders=true):∀(c:Code) (st:St) (Q:bq->St->Prop),fG P C n0 c st Q->dN P n0 c st Q:=by
 intro c
 induction c with
 | skip=>intro st Q h;exact .skip h
 | ret=>intro st Q h;exact .ret h
 | exit id=>intro st Q h;exact .exit h
 | seq x y E5 E6=>
  intro st Q h;refine .seq ((E5 st _ h).mono fun e s hs=>?_);cases e with
  | normal=>exact E6 s _ hs
  | exit id=>exact hs
  | ret=>exact hs
 | region id ops draw=>
  intro st Q h;cases draw with
  | false=>exact .region hC h
  | true=>
   refine .draw hC eY (oA _ _ _ _ h fun t s hs=>?_);simp only at hs;split at hs
   ·rename_i hd
    rw[Bool.and_eq_true]at hd;exact⟨AM hd.1 hd.2,hs⟩
   ·exact hs.elim
 | cond c x y E5 E6=>
  intro st Q h;unfold fG at h;split at h
  ·rename_i hb;exact .cond hb (E5 st Q h)
  ·rename_i hb;exact .cond hb (E6 st Q h)
  ·exact h.elim
 | block id c ih=>
  intro st Q h;refine .block ((ih st _ h).mono fun e s hs=>?_);cases e<;>exact hs
 | loop c ih=>intro st Q h;exact h
 | _=>intros;rename_i h;exact False.elim h
theorem dN.E7 {c:Code} {Q:bq->St->Prop} (h:dN P n0 c st fun e s=>Q e s∨∃s',s.Le s'/\s'.aO=true/\n0<=s'.heap.length/\Q e s'):dN P n0 c st Q:=fun K hn β S a w hs=>
 wp_mono (h K hn β S a w hs) fun e a' w' ⟨x,s,h1,h2,β',S',h5⟩=>by
  rcases h2 with h2|⟨s',h2,h3,hk,h4⟩
  ·exact⟨x,s,h1,h2,β',S',h5⟩
  ·exact⟨x,s',h1,h4,_,S',h5.weaken h2 h3 fun i R hi=>Nat.lt_of_lt_of_le (hn i R hi) hk⟩
theorem rK.intro (hC:bC P C) (eY:P.follows .mixedOrders=true) {c:Code} {Q:bq->St->Prop} (I:Nat->St->Prop) {n:Nat} {s0:St} (hl:st.Le s0) (hb:s0.aO=true) (hk:n0<=s0.heap.length) (h0:I n s0)
  (round:∀n s,I n s->fG P C n0 c s fun e s=>match e with
   | .normal=>∃s',s.Le s'/\s'.aO=true/\n0<=s'.heap.length/\∃m,m<n/\I m s'
   | .exit id=>Q (.exit id) s
   | .ret=>Q .ret s):rK P n0 c st Q:=by
 refine dN.weaken hl hb hk (dN.loop I (fun n s hI=>dN.E7 ((fG.run hC eY c s _ (round n s hI)).mono fun e s1 h1=>?_)) h0);cases e with
 | normal=>
  obtain⟨s',h2,h3,h4,m,h5,h6⟩:=h1;exact .inr ⟨s',h2,h3,h4,m,h5,h6⟩
 | exit id=>exact .inl h1
 | ret=>exact .inl h1
def dS:List AV->List AV->Prop
 | [],[]=>True
 | x::xs,y::ys=>(y=.af∨y=x)/\dS xs ys
 | _,_=>False
def dU:bU->bU->Prop
 | _,[]=>True
 | x::xs,y::ys=>(y=none∨y=x)/\dU xs ys
 | _,_=>False
theorem wY:∀ {xs ys:List AV},dS xs ys->ys.length=xs.length/\∀(i:Nat) (y:AV),ys[i]?=some y->y=.af∨xs[i]?=some y
 | [],[],_=>⟨rfl,by simp⟩
 | x::xs,y::ys,h=>by
  obtain⟨h1,h2⟩:=h;obtain⟨h3,h4⟩:=wY h2;refine⟨by simp[h3],fun i z hz=>?_⟩;cases i with
  | zero=>simp at hz;subst hz;rcases h1 with h|h;exact .inl h;exact .inr (by simp[h])
  | succ i=>simpa using h4 i z (by simpa using hz)
theorem wZ:∀ {xs ys:bU},dU xs ys->ys.length<=xs.length/\∀(i:Nat) (b:aA),look ys i=some b->look xs i=some b
 | xs,[],_=>⟨by simp,fun i b hb=>by simp[look]at hb⟩
 | x::xs,y::ys,h=>by
  obtain⟨h1,h2⟩:=h;obtain⟨h3,h4⟩:=wZ h2;refine⟨by simp[h3],fun i b hb=>?_⟩;cases i with
  | zero=>simp[look]at hb ⊢;subst hb;rcases h1 with h|h;cases h;exact h.symm
  | succ i=>simpa[look]using h4 i b (by simpa[look]using hb)
theorem fy {s s':St} (h1:dS s.tmps s'.tmps) (h2:dU s.heap s'.heap):s.Le s':=
 ⟨(wY h1).1,(wZ h2).1,(wY h1).2,(wZ h2).2⟩
theorem eP.intro (hC:bC P C) (eY:P.follows .mixedOrders=true) {f:FuncId} {fn:Func} {c:Code} {args:List Arg} {res:ko} (om:List Mode) (jx:P.funcs[f]?=some fn) (fg:(fn.name == "runtime.NumGoroutine")=false) (dD:fn.body=some c)
  (h:fG P C args.length c (gd args fn.ntmps) fun e s=>match e with
   | .exit _=>False
   | .normal=>finish C s args fn.results.toList om=some res
   | .ret=>finish C s args fn.results.toList om=some res):eP P f args res:=
 eP.ry hC jx fg dD ((fG.run hC eY c _ _ h).mono fun e s hs=>by
  cases e with
  | normal=>exact⟨.inl rfl,hs⟩
  | exit id=>exact hs.elim
  | ret=>exact⟨.inr rfl,hs⟩)
end
abbrev Rows:=List (List Tree)
structure ZI where
 wrap:IntKind->Int->Int
 add:Int->Int->Int
 sub:Int->Int->Int
 mul:Int->Int->Int
 quo:Int->Int->Int
 rem:Int->Int->Int
 shl:IntKind->Int->Int->Int
 shr:IntKind->Int->Int->Int
 kQ:IntKind->Int->Int->Int
 fu:IntKind->Int->Int->Int
 MD:IntKind->Int->Int->Int
 E8:IntKind->Int->Int->Int
 eq:Int->Int->Bool
 ne:Int->Int->Bool
 lt:Int->Int->Bool
 le:Int->Int->Bool
 not:Bool->Bool
 beq:Bool->Bool->Bool
 bne:Bool->Bool->Bool
 max:Int->Int->Int
 min:Int->Int->Int
 nat:Int->Nat
 yC:Int->Nat->Bool
 az:Nat->Int
 idx:Nat->Int->Nat
 neq:Nat->Nat->Bool
 fN:Nat->Nat->Nat
 J7:Int->Int->Nat
 cut:Int->Int->Nat->Bool
 room:Nat->Nat->Nat->Bool
 nG:Int->Int->Nat->Bool
 len:Rows->Nat
 nth:Rows->Nat->Option (List Tree)
 E9:Rows->Nat->List Tree->Rows
 gM:IntKind->Rows->Nat->Bool
 dK:Rows->Nat->Int
 oW:IntKind->Rows->Nat->Int->Rows
 fit:Nat->Nat->Rows->Bool
 part:Rows->Nat->Nat->Rows
 ext:Rows->Nat->Rows->Rows
 yD:Rows->Nat->Rows->Rows
 rep:Nat->List Tree->Rows
 wide:Nat->Rows->Bool
 all:List Bool->Bool
 Pg:List (Value×Tree)->Value->Bool
 Fb:List (Value×Tree)->Value->Bool
 J8:List (Value×Tree)->Value->Tree->List (Value×Tree)
 str:Rows->Option ByteArray
 find:List (Value×Tree)->Value->Option (Option Tree)
def ZI.cJ:ZI where
 wrap k n:=k.wrap n
 add a b:=a+b
 sub a b:=a-b
 mul a b:=a*b
 quo a b:=a.tdiv b
 rem a b:=a.tmod b
 shl k a b:=k.wrap (a*2^(Min.min b.toNat k.bits))
 shr k a b:=a.fdiv (2^(Min.min b.toNat k.bits))
 kQ k a b:=k.wrap ((BitVec.ofInt k.bits a &&& BitVec.ofInt k.bits b).toNat)
 fu k a b:=k.wrap ((BitVec.ofInt k.bits a ||| BitVec.ofInt k.bits b).toNat)
 MD k a b:=k.wrap ((BitVec.ofInt k.bits a ^^^ BitVec.ofInt k.bits b).toNat)
 E8 k a b:=k.wrap ((BitVec.ofInt k.bits a &&& ~~~ BitVec.ofInt k.bits b).toNat)
 eq a b:=decide (a=b)
 ne a b:=decide (a≠b)
 lt a b:=decide (a<b)
 le a b:=decide (a<=b)
 not b:=!b
 beq a b:=(a==b)
 bne a b:=!(a==b)
 max a b:=if b>a then b else a
 min a b:=if b<a then b else a
 nat a:=a.toNat
 yC a n:=decide (0<=a/\a<n)
 az n:=n
 idx off a:=off+a.toNat
 neq a b:=decide (a=b)
 fN a b:=a+b
 J7 e l:=e.toNat-l.toNat
 cut l e n:=decide (0<=l/\l<=e/\e<=n)
 room a b bytes:=decide ((a+b)*bytes<=au)
 nG n m bytes:=decide (0<=n/\n<=m/\m*bytes<=au)
 len l:=l.length
 nth l i:=l[i]?
 E9 l i r:=l.set i r
 gM k l i:=match l[i]? with|some [.v (.int k' _)]=>k'==k|_=>false
 dK l i:=match l[i]? with|some [.v (.int _ x)]=>x|_=>0
 oW k l i x:=l.set i [.v (.int k x)]
 fit off n l:=decide (off+n<=l.length)
 part l off n:=(l.drop off).take n
 ext l off new:=l.drop off++new
 yD l off new:=aZ l off new
 rep n r:=List.replicate n r
 wide n l:=l.all fun r=>r.length==n
 all l:=l.all id
 Pg l k:=match df k l with
  | some none=>true
  | some (some (.v (.bool _)))=>true
  | _=>false
 Fb l k:=match df k l with
  | some (some (.v (.bool b)))=>b
  | _=>false
 J8 l k t:=(gk k t l).getD l
 str l:=(ez l).map fun b=>⟨b.toArray⟩
 find l k:=df k l
structure VS (c:Bool) (p:Prop):Prop where
 c:c=true
 p:p
structure Br (b:Bool) (p q:Prop):Prop where
 t:b=true->p
 f:b=false->q
def nH:List Bool->Prop->Prop
 | [],p=>p
 | c::cs,p=>VS c (nH cs p)
def fJ (cs:List Bool):Prop:=∀c∈cs,c=true
theorem Om:∀ {cs:List Bool} {p:Prop},nH cs p->fJ cs/\p
 | [],p,h=>⟨by simp[fJ],h⟩
 | c::cs,p,h=>by
  obtain⟨h1,h2⟩:=Om h.p;exact⟨by intro x hx;rcases List.mem_cons.1 hx with rfl|hx;exact h.c;exact h1 x hx,h2⟩
abbrev OZ (α:Type):=Option (List Bool×α)
def isConst:Operand->Bool
 | .const _=>true
 | _=>false
section
variable (Z:ZI)
def ME (Ph:Bool) (op:BinOp) (k:IntKind) (a:Int) (k':IntKind) (b:Int):OZ Value:=
 match op with
 | .shl=>match Ph with
  | true=>if b<0 then none else some ([],.int k (Z.shl k a b))
  | false=>some ([Z.le 0 b],.int k (Z.shl k a b))
 | .shr=>match Ph with
  | true=>if b<0 then none else some ([],.int k (Z.shr k a b))
  | false=>some ([Z.le 0 b],.int k (Z.shr k a b))
 | _=>
  if k=k' then
   match op with
   | .add=>some ([],.int k (Z.wrap k (Z.add a b)))
   | .sub=>some ([],.int k (Z.wrap k (Z.sub a b)))
   | .mul=>some ([],.int k (Z.wrap k (Z.mul a b)))
   | .quo=>match Ph with
    | true=>if b=0 then none else some ([],.int k (Z.wrap k (Z.quo a b)))
    | false=>some ([Z.ne b 0],.int k (Z.wrap k (Z.quo a b)))
   | .rem=>match Ph with
    | true=>if b=0 then none else some ([],.int k (Z.rem a b))
    | false=>some ([Z.ne b 0],.int k (Z.rem a b))
   | .and=>some ([],.int k (Z.kQ k a b))
   | .or=>some ([],.int k (Z.fu k a b))
   | .xor=>some ([],.int k (Z.MD k a b))
   | .andNot=>some ([],.int k (Z.E8 k a b))
   | .eql=>some ([],.bool (Z.eq a b))
   | .neq=>some ([],.bool (Z.ne a b))
   | .lss=>some ([],.bool (Z.lt a b))
   | .leq=>some ([],.bool (Z.le a b))
   | .gtr=>some ([],.bool (Z.lt b a))
   | .geq=>some ([],.bool (Z.le b a))
   | _=>none
  else none
def Sz (op:UnOp) (x:Value):Option Value:=
 match op,x with
 | .neg,.int k n=>some (.int k (Z.wrap k (Z.sub 0 n)))
 | .not,.bool b=>some (.bool (Z.not b))
 | _,_=>none
end
theorem J9 {Ph : Bool} {op : BinOp} {k k' : IntKind} {a b : Int} {cs : List Bool} {v : Value} (h : ME ZI.cJ Ph op k a k' b = some (cs, v)) (hc : fJ cs) : JF op (.int k a) (.int k' b) = some v := by
  unfold ME at h;unfold JF;have e1 : ∀x : Bool, fJ [x] -> x = true := fun x hx=> hx x (by simp)
  cases op<;>simp only[ZI.cJ]at h ⊢
  case shl=>
    cases Ph<;>simp only at h
    · cases h
      have := e1 _ hc;rw[if_neg (by simpa using this)]
    · split at h
      · cases h
      · rename_i hb;cases h;rw[if_neg hb]
  case shr=>
    cases Ph<;>simp only at h
    · cases h
      have := e1 _ hc;rw[if_neg (by simpa using this)]
    · split at h
      · cases h
      · rename_i hb;cases h;rw[if_neg hb]
  all_goals
    split at h
    · rename_i hk
      subst hk;rw[if_pos rfl]
      first
        | (cases h;done)
        | (cases h;rfl)
        | (cases h;by_cases GA : a = b<;>simp[GA];done)
        | (cases Ph<;>(try simp only at h)
           · cases h
             have := e1 _ hc;rw[if_neg (by simpa using this)]
           · split at h
             · cases h
             · rename_i hb;cases h;rw[if_neg hb])
    · cases h
section
variable (Z:ZI) (C:eA)
def vF (h:Hp):Cell->OZ (Tree×List (Nat×Option aA))
 | .t t=>some ([],t,[])
 | .sl b off len cp=>
  match h b with
  | some (.rows sz rows g _)=>some ([Z.fit off len rows],.aa cp (Z.part rows off len),[(b,some (.rows sz rows g true))])
  | _=>none
 | _=>none
def kU (h:Hp):List Cell->OZ (List Tree×List (Nat×Option aA))
 | []=>some ([],[],[])
 | c::cs=>
  match vF Z h c with
  | some (o,t,m)=>match kU h cs with
   | some (os,ts,ms)=>some (o++os,t::ts,m++ms)
   | none=>none
  | none=>none
def l9 (h:Hp):AV->OZ (Rows×List Nat)
 | .c (.t (.aa _ rows))=>some ([],rows,[])
 | .c (.sl b off len _)=>
  match h b with
  | some (.rows _ rows _ _)=>some ([Z.fit off len rows],Z.part rows off len,[b])
  | some (.gL _ rows)=>some ([Z.fit off len rows],Z.part rows off len,[b])
  | _=>none
 | .c (.t (.v (.slice _ 0 _)))=>some ([],[],[])
 | _=>none
def tK (ti:TI) (slot:Nat) (h:Hp) (s x:AV):OZ cR:=
 match l9 Z h x with
 | none=>match kl ti slot h s x with
  | some e=>some ([],e)
  | none=>none
 | some (o,new,oR)=>
  match s with
  | .c (.t (.aa true rows))=>
   some (o ++ [Z.not (Z.neq (Z.len new) 0),Z.wide ti.size new,Z.wide ti.size rows,Z.room (Z.len rows) (Z.len new) ti.bytes],
    { val:=.c (.sl slot 0 (Z.fN (Z.len rows) (Z.len new)) false),wr:=[(slot,some (.rows ti.size (Z.ext rows 0 new) true false))],rd:=oR })
  | .c (.sl b off len false)=>
   match h b with
   | some (.rows sz rows true fz)=>
    if sz=ti.size then
     some (o ++ [Z.not (Z.neq (Z.len new) 0),Z.wide ti.size new,Z.room len (Z.len new) ti.bytes,Z.neq (Z.fN off len) (Z.len rows)],
      { val:=.c (.sl slot 0 (Z.fN len (Z.len new)) false),wr:=[(b,El sz rows fz),(slot,some (.rows sz (Z.ext rows off new) true fz))],rd:=b::oR })
    else none
   | _=>none
  | .c (.sl b off len true)=>
   match h b with
   | some (.rows sz rows g fz)=>
    if sz=ti.size then
     some (o ++ [Z.not (Z.neq (Z.len new) 0),Z.wide ti.size new,Z.room len (Z.len new) ti.bytes,Z.fit off len rows],
      { val:=.c (.sl slot 0 (Z.fN len (Z.len new)) false),wr:=[(slot,some (.rows ti.size (Z.ext (Z.part rows off len) 0 new) true false))],rd:=b::oR })
    else none
   | _=>none
  | _=>none
def Hs (ti:TI) (slot:Nat) (h:Hp) (s:AV) (o:List Bool) (new:Rows) (oR:List Nat):Option (List Bool×Bool×cR×List Bool×cR):=
 match s with
 | .c (.sl b off len false)=>
  match h b with
  | some (.rows sz rows true false)=>
   if sz=ti.size then
    some (o ++ [Z.not (Z.neq (Z.len new) 0),Z.wide ti.size new,Z.room len (Z.len new) ti.bytes],Z.neq (Z.fN off len) (Z.len rows),
     { val:=.c (.sl slot 0 (Z.fN len (Z.len new)) false),wr:=[(b,El sz rows false),(slot,some (.rows sz (Z.ext rows off new) true false))],rd:=b::oR },
     [Z.fit (Z.fN off len) (Z.len new) rows],
     { val:=.c (.sl b off (Z.fN len (Z.len new)) false),wr:=[(b,some (.rows sz (Z.yD rows (Z.fN off len) new) true false))],rd:=b::oR })
   else none
  | _=>none
 | _=>none
def MF (argTypes:Array TypeId):Option TI:=
 match argTypes[0]? with
 | some t=>match C.ty t with
  | some ti=>match ti.kind with
   | .slice e=>C.ty e
   | _=>none
  | none=>none
 | none=>none
def C7 (ti:TI) (h:Hp) (d x:AV):OZ cR:=
 match l9 Z h x,d with
 | some (o,src,oR),.c (.sl b off len _)=>
  match h b with
  | some (.rows sz rows g false)=>
   if sz=ti.size then
    some (o ++ [Z.fit off len rows,Z.wide ti.size src,Z.le (Z.az (Z.len src)) (Z.az len)],{ val:=ep (.int .i64 (Z.az (Z.len src))),wr:=[(b,some (.rows sz (Z.yD rows off src) g false))],rd:=b::oR })
   else none
  | _=>none
 | _,_=>none
def Ht (h:Hp) (t:TypeId) (x:AV):OZ cR:=
 match C.ty t with
 | none=>none
 | some ti=>
  match ti.kind,x with
  | .slice _,.c (.sl _ _ len _)=>some ([],{ val:=ep (.int .i64 (Z.az len)) })
  | .slice _,.c (.t (.aa _ rows))=>some ([],{ val:=ep (.int .i64 (Z.az (Z.len rows))) })
  | _,_=>(pb C h t x).map fun e=>([],e)
def C8 (gt:Bool):List AV->OZ cR
 | [.c (.t (.v (.int k a))),.c (.t (.v (.int k' b)))]=>if k=k' then some ([],{ val:=ep (.int k (match gt with|true=>Z.max a b|false=>Z.min a b)) }) else none
 | _=>none
def xa (h:Hp) (t:TypeId) (x:AV) (lo hi mx:Option AV):OZ cR:=
 match C.ty t with
 | none=>none
 | some ti=>
  match ti.kind,x,mx with
  | .slice e,.c (.sl b off len cp),none=>
   match h b,C.ty e with
   | some (.rows sz _ _ _),some te=>
    if sz=te.size then
     match lo,hi with
     | none,none=>some ([],{ val:=.c (.sl b off len cp),rd:=[b] })
     | none,some hv=>match hv.int? with
      | some e'=>some (match cp with
        | true=>[Z.cut 0 e' len,Z.eq e' (Z.az len)]
        | false=>[Z.cut 0 e' len],{ val:=.c (.sl b off (Z.nat e') cp),rd:=[b] })
      | none=>none
     | some lv,none=>match lv.int? with
      | some l=>some ([Z.cut l (Z.az len) len],{ val:=.c (.sl b (Z.idx off l) (Z.J7 (Z.az len) l) cp),rd:=[b] })
      | none=>none
     | some lv,some hv=>match lv.int?,hv.int? with
      | some l,some e'=>some (match cp with
        | true=>[Z.cut l e' len,Z.eq e' (Z.az len)]
        | false=>[Z.cut l e' len],{ val:=.c (.sl b (Z.idx off l) (Z.J7 e' l) cp),rd:=[b] })
      | _,_=>none
    else none
   | some (.var _),some _=>(dq C h t (.c (.sl b off len cp)) lo hi none).map fun e=>([],e)
   | _,_=>none
  | .slice e,.c (.t (.aa cp rows)),none=>
   match C.ty e with
   | some te=>
    match lo,hi with
    | none,none=>(dq C h t x none none none).map fun e=>([],e)
    | none,some hv=>match hv.int? with
     | some e'=>some ([Z.cut 0 e' (Z.len rows),Z.wide te.size rows],{ val:=.c (.t (.aa (match cp with|true=>Z.eq e' (Z.az (Z.len rows))|false=>false) (Z.part rows 0 (Z.nat e')))) })
     | none=>none
    | some lv,none=>match lv.int? with
     | some l=>some ([Z.cut l (Z.az (Z.len rows)) (Z.len rows),Z.wide te.size rows],{ val:=.c (.t (.aa cp (Z.part rows (Z.nat l) (Z.J7 (Z.az (Z.len rows)) l)))) })
     | none=>none
    | some lv,some hv=>match lv.int?,hv.int? with
     | some l,some e'=>some ([Z.cut l e' (Z.len rows),Z.wide te.size rows],{ val:=.c (.t (.aa (match cp with|true=>Z.eq e' (Z.az (Z.len rows))|false=>false) (Z.part rows (Z.nat l) (Z.J7 e' l)))) })
     | _,_=>none
   | none=>none
  | .slice e,.c (.sl b off len cp),some mv=>
   match h b,C.ty e,lo,hi with
   | some (.rows sz _ _ _),some te,none,some hv=>match hv.int?,mv.int? with
    | some e',some m'=>if sz=te.size then some ([Z.cut 0 e' len,Z.eq m' e'],{ val:=.c (.sl b off (Z.nat e') true),rd:=[b] }) else none
    | _,_=>none
   | _,_,_,_=>(dq C h t (.c (.sl b off len cp)) lo hi (some mv)).map fun e=>([],e)
  | _,_,_=>(dq C h t x lo hi mx).map fun e=>([],e)
def qq (h:Hp) (src dst:TypeId) (x:AV):OZ cR:=
 match C.ty src,C.ty dst,x with
 | some ts,some td,.c (.t (.v (.int k0 n)))=>
  match ts.kind,td.kind with
  | .int _,.int k=>some ([],{ val:=ep (.int k (Z.wrap k n)) })
  | _,_=>(eK C h src dst x).map fun e=>([],e)
 | some ts,some td,x=>
  match ts.kind,td.kind with
  | .slice e,.string=>match C.ty e,l9 Z h x with
   | some te,some (o,rows,rd)=>match te.kind,GY x with
    | .int .u8,true=>match Z.str rows with
     | some s=>some (o,{ val:=ep (.string s),rd:=rd })
     | none=>none
    | _,_=>none
   | _,_=>none
  | _,_=>(eK C h src dst x).map fun e=>([],e)
 | _,_,_=>(eK C h src dst x).map fun e=>([],e)
def oB (h:Hp) (size:Nat):List (List Tree)->List (Nat×AV)->OZ (List (List Tree)×List (Nat×Option aA))
 | rows,[]=>some ([],rows,[])
 | rows,(i,v)::rest=>
  match v.cells with
  | some x=>if x.length=size/\i<rows.length then
    match kU Z h x with
    | some (o,ts,m)=>match oB h size (rows.set i ts) rest with
     | some (os,r,ms)=>some (o++os,r,m++ms)
     | none=>none
    | none=>none
   else none
  | none=>none
def vG (s:ByteArray):Rows:=s.data.toList.map fun b=>[.v (.int .u8 b.toNat)]
def vH:List Cell->List Cell->Option Bool
 | [],[]=>some true
 | .t (.v (.int k a))::xs,.t (.v (.int k' b))::ys=>if k=k' then(vH xs ys).map fun r=>Z.eq a b&&r else none
 | _,_=>none
def ma (slot : Nat) (σ : Operand -> AV) (h : Hp) : Op -> OZ cR
  | .binOp op t x y t'=> match σ x, σ y with
    | .c (.t (.v (.int k a))), .c (.t (.v (.int k' b)))=> match ME Z (isConst y) op k a k' b with
      | some (o, v)=> some (o, { val := ep v })
      | none=> none
    | .c (.t (.v (.bool a))), .c (.t (.v (.bool b)))=> match C.ty t with
      | some ti=> match ti.kind, op with
        | .bool, .eql=> some ([], { val := ep (.bool (Z.beq a b)) })
        | .bool, .neq=> some ([], { val := ep (.bool (Z.bne a b)) })
        | _, _=> none
      | none=> none
    | .agg a, .agg b=> match vw C op t (vH Z a b) a.length b.length with
      | some e=> some ([], e)
      | none=> (Cm C op t a b).map fun e=> ([], e)
    | _, _=> (evalOp C slot σ h (.binOp op t x y t')).map fun e=> ([], e)
  | .unOp op _ x=> match σ x with
    | .c (.t (.v a))=> (Sz Z op a).map fun v=> ([], { val := ep v })
    | _=> none
  | .convert src dst x=> qq Z C h src dst (σ x)
  | .slice t x lo hi mx=> xa Z C h t (σ x) (lo.map σ) (hi.map σ) (mx.map σ)
  | .buildSlice t len parts=> match C.ty t with
    | some ti=> match ti.kind with
      | .slice e=> match C.ty e with
        | some te=> if len * te.size <= 2^24 /\ te.size≠0 then
            match qT C slot t te.size len (parts.toList.map fun p=> (p.1, σ p.2)) with
            | some e=> some ([], e)
            | none=> match oB Z h te.size (List.replicate len te.zero) (parts.toList.map fun p=> (p.1, σ p.2)) with
              | some (o, rows, m)=> some (o, { val := .c (.sl slot 0 len false), wr := m ++ [(slot, some (.rows te.size rows true false))], rd := ids m })
              | none=> none
          else none
        | none=> none
      | _=> none
    | none=> none
  | .load t a=> match C.ty t with
    | some ti=> match σ a with
      | .c (.ptr b r c)=> match h b with
        | some (.rows sz rows _ _)=>
          match ti.kind with
          | .int k=> if sz = 1 /\ c = 0 then some ([Z.gM k rows r], { val := ep (.int k (Z.dK rows r)), rd := [b] }) else none
          | _=> match Z.nth rows r with
            | some row=> (dn ti (row.map .t) c).map fun v=> ([], { val := v, rd := [b] })
            | none=> none
        | _=> (evalOp C slot σ h (.load t a)).map fun e=> ([], e)
      | _=> (evalOp C slot σ h (.load t a)).map fun e=> ([], e)
    | none=> none
  | .store t a x=> match C.ty t, (σ x).cells with
    | some ti, some cs=> match σ a with
      | .c (.ptr b r c)=> match h b with
        | some (.rows sz rows g false)=>
          if cs.length = ti.size then
          match ti.kind, cs with
          | .int k, [.t (.v (.int k' x))]=> if sz = 1 /\ c = 0 /\ k = k' then some ([Z.gM k rows r], { wr := [(b, some (.rows sz (Z.oW k rows r x) g false))], rd := [b] }) else none
          | _, _=> match Z.nth rows r, kU Z h cs with
            | some row, some (o, ts, m)=> if c + ts.length <= row.length /\ !(ids m).contains b then some (o, { wr := m ++ [(b, some (.rows sz (Z.E9 rows r (aZ row c ts)) g false))], rd := b::ids m }) else none
            | _, _=> none
          else none
        | _=> (evalOp C slot σ h (.store t a x)).map fun e=> ([], e)
      | _=> (evalOp C slot σ h (.store t a x)).map fun e=> ([], e)
    | _, _=> none
  | .makeSlice t l c=> match C.cs t with
   | true=> match C.ty t with
    | some ti=> match ti.kind with
      | .slice e=> match C.ty e, (σ l).int?, (σ c).int? with
        | some te, some n, some m=> match te.zero with
          | [z]=> if 1 <= te.bytes /\ te.size≠0 then
              some ([Z.nG n m te.bytes], { val := .c (.sl slot 0 (Z.nat n) false), wr := [(slot, some (.var (List.replicate (Z.nat n) (.t z))))] }) else none
          | _=> none
        | _, _, _=> none
      | _=> none
    | none=> none
   | false=> match C.ty t with
    | some ti=> match ti.kind with
      | .slice e=> match C.ty e, (σ l).int?, (σ c).int? with
        | some te, some n, some m=> if 1 <= te.bytes /\ te.size≠0 then
            some ([Z.nG n m te.bytes], { val := .c (.sl slot 0 (Z.nat n) false), wr := [(slot, some (.rows te.size (Z.rep (Z.nat n) te.zero) true false))] }) else none
        | _, _, _=> none
      | _=> none
    | none=> none
  | .indexAddr t x i=> match C.ty t, (σ i).int? with
    | some ti, some n=> match ti.kind with
      | .slice e=> match C.ty e with
        | some te=> match σ x with
          | .c (.sl b off len _)=> match h b with
            | some (.rows sz _ _ _)=> if sz = te.size then
                some ([Z.yC n len], { val := .c (.ptr b (Z.idx off n) 0), rd := [b] }) else none
            | some (.var _)=> (evalOp C slot σ h (.indexAddr t x i)).map fun e=> ([], e)
            | _=> none
          | .c (.t (.aa _ rows))=>
            match te.kind with
            | .int k=> if te.size = 1 then some ([Z.le 0 n, Z.gM k rows (Z.nat n)], { val := .c (.tp [.v (.int k (Z.dK rows (Z.nat n)))] 0) }) else none
            | _=> match Z.nth rows (Z.nat n) with
              | some row=> if row.length = te.size then some ([Z.le 0 n], { val := .c (.tp row 0) }) else none
              | none=> none
          | _=> none
        | none=> none
      | .array len e=> match C.ty e with
        | some te=> match te.kind, σ x with
          | .int .i8, .c (.tp row c)=> if te.size = 1 then some ([Z.yC n len], { val := .c (.tp row (Z.idx c n)) }) else none
          | _, _=> (evalOp C slot σ h (.indexAddr t x i)).map fun e=> ([], e)
        | none=> none
      | _=> (evalOp C slot σ h (.indexAddr t x i)).map fun e=> ([], e)
    | _, _=> none
  | .call { callee := .builtin b, args, argTypes }=>
    match b, args.toList, argTypes[0]? with
    | .len, [x], some t=> Ht Z C h t (σ x)
    | .append, [s, x], some t=> match C.ty t with
      | some ti=> match ti.kind with
        | .slice e=> match C.ty e, argTypes[1]? with
          | some te, some t1=> match C.ty t1 with
            | some OC=> match OC.kind with
              | .slice _=> if te.size = 0∨te.bytes = 0 then none else tK Z te slot h (σ s) (σ x)
              | _=> none
            | none=> none
          | _, _=> none
        | _=> none
      | none=> none
    | .copy, [d, x], some t=> match C.ty t with
      | some ti=> match ti.kind with
        | .slice e=> match C.ty e with
          | some te=> if te.size = 0 then none else C7 Z te h (σ d) (σ x)
          | none=> none
        | _=> none
      | none=> none
    | .max, [x, y], _=> C8 Z true [σ x, σ y]
    | .min, [x, y], _=> C8 Z false [σ x, σ y]
    | _, _, _=> none
  | .index t x i=> match C.ty t, (σ i).int? with
    | some ti, some n=> match ti.kind, σ x with
      | .string, .c (.t (.v (.string s)))=> some ([Z.le 0 n, Z.gM .u8 (vG s) (Z.nat n)], { val := ep (.int .u8 (Z.dK (vG s) (Z.nat n))) })
      | _, _=> (evalOp C slot σ h (.index t x i)).map fun e=> ([], e)
    | _, _=> none
  | .lookup t x i ok=> match C.ty t with
    | some ti=> match ti.kind, σ x, σ i with
      | .map k e, .c (.mp b), .c (.t (.v key))=> match h b, C.ty k, C.ty e, ok with
        | some (.map de), some tk, some te, false=> match te.kind, te.zero, jm tk.kind key with
          | .bool, [.v (.bool false)], true=> some ([Z.Pg de key], { val := ep (.bool (Z.Fb de key)), rd := [b] })
          | .int _, [z], true=> match Z.find de key with
            | some (some t)=> some ([], { val := .c (.t t), rd := [b] })
            | some none=> some ([], { val := .c (.t z), rd := [b] })
            | none=> none
          | _, _, _=> (evalOp C slot σ h (.lookup t x i ok)).map fun e=> ([], e)
        | some (.map de), some tk, some te, true=> match te.kind, te.zero, jm tk.kind key with
          | .int _, [z], true=> match Z.find de key with
            | some (some t)=> some ([], { val := .pN [.c (.t t), ep (.bool true)], rd := [b] })
            | some none=> some ([], { val := .pN [.c (.t z), ep (.bool false)], rd := [b] })
            | none=> none
          | _, _, _=> (evalOp C slot σ h (.lookup t x i ok)).map fun e=> ([], e)
        | _, _, _, _=> (evalOp C slot σ h (.lookup t x i ok)).map fun e=> ([], e)
      | _, _, _=> none
    | none=> none
  | .mapUpdate t x i v=> match C.ty t with
    | some ti=> match ti.kind, σ x, σ i, σ v with
      | .map k e, .c (.mp b), .c (.t (.v key)), .c (.t (.v (.bool y)))=> match h b, C.ty k, C.ty e with
        | some (.map de), some tk, some te=> match te.kind, jm tk.kind key with
          | .bool, true=> some ([Z.Pg de key], { wr := [(b, some (.map (Z.J8 de key (.v (.bool y)))))], rd := [b] })
          | _, _=> (evalOp C slot σ h (.mapUpdate t x i v)).map fun e=> ([], e)
        | _, _, _=> none
      | .map k e, .c (.mp b), .c (.t (.v key)), .c (.t (.v (.int ik y)))=> match h b, C.ty k with
        | some (.map de), some tk=> match jm tk.kind key, Z.find de key with
          | true, some _=> some ([], { wr := [(b, some (.map (Z.J8 de key (.v (.int ik y)))))], rd := [b] })
          | _, _=> none
        | _, _=> none
      | _, _, _, _=> (evalOp C slot σ h (.mapUpdate t x i v)).map fun e=> ([], e)
    | none=> none
  | op=> (evalOp C slot σ h op).map fun e=> ([], e)
end
theorem uN {h:Hp} {c:Cell} {o:List Bool} {t:Tree} {m:List (Nat×Option aA)} (e:vF ZI.cJ h c=some (o,t,m)) (ho:fJ o):toTree h c=some (t,m):=by
 unfold vF at e;unfold toTree;split at e
 ·cases e;rfl
 ·split at e
  ·rename_i hb
   cases e;have:=ho _ (List.mem_singleton.2 rfl);simp only[hb];rw[if_pos (by simpa[ZI.cJ]using this)];rfl
  ·cases e
 ·cases e
theorem fU {a b:List Bool} (h:fJ (a++b)):fJ a/\fJ b:=
 ⟨fun x hx=>h x (List.mem_append_left _ hx),fun x hx=>h x (List.mem_append_right _ hx)⟩
theorem jo {h:Hp}:∀ {cs:List Cell} {o:List Bool} {ts:List Tree} {m:List (Nat×Option aA)},kU ZI.cJ h cs=some (o,ts,m)->fJ o->bS h cs=some (ts,m)
 | [],o,ts,m,e,ho=>by cases e;rfl
 | c::cs,o,ts,m,e,ho=>by
  unfold kU at e;split at e
  ·rename_i o1 t1 m1 h1
   split at e
   ·rename_i os1 ts1 ms1 h2
    cases e;obtain⟨a,b⟩:=fU ho;unfold bS;rw[uN h1 a,jo h2 b]
   ·cases e
  ·cases e
theorem QZ {h:Hp} {x:AV} {o:List Bool} {r:Rows} {rd:List Nat} (e:l9 ZI.cJ h x=some (o,r,rd)) (ho:fJ o):rowsOf h x=some (r,rd):=by
 unfold l9 at e;unfold rowsOf;split at e
 ·cases e;rfl
 ·split at e
  ·rename_i hb
   cases e;have:=ho _ (List.mem_singleton.2 rfl);simp only[hb];rw[if_pos (by simpa[ZI.cJ]using this)];rfl
  ·rename_i hb
   cases e;have:=ho _ (List.mem_singleton.2 rfl);simp only[hb];rw[if_pos (by simpa[ZI.cJ]using this)];rfl
  ·cases e
 ·cases e;rfl
 ·cases e
theorem yE {ti:TI} {slot:Nat} {h:Hp} {s x:AV} {o:List Bool} {e:cR} (he:tK ZI.cJ ti slot h s x=some (o,e)) (ho:fJ o):cN ti slot h s x=some e:=by
 unfold tK at he;unfold cN;split at he
 ·split at he
  ·rename_i e1 h1
   cases he;rw[uD h1];exact h1
  ·cases he
 ·rename_i o1 new oR hx
  split at he
  ·rename_i rows
   cases he;obtain⟨a,b⟩:=fU ho;rw[QZ hx a];simp only[fJ,ZI.cJ,List.mem_cons,List.not_mem_nil,or_false,forall_eq_or_imp,forall_eq,Bool.not_eq_true',decide_eq_true_eq,decide_eq_false_iff_not]at b;obtain⟨b1,b2,b3,b4⟩:=b;simp only[ZI.cJ];rw[if_neg b1,b2];simp only[Bool.not_true,Bool.false_eq_true,if_false,b3,Bool.true_and,decide_eq_true_eq,b4,if_true];simp
  ·rename_i b off len
   split at he
   ·rename_i sz rows fz hb
    split at he
    ·rename_i dY
     cases he;obtain⟨a,c⟩:=fU ho;rw[QZ hx a];simp only[fJ,ZI.cJ,List.mem_cons,List.not_mem_nil,or_false,forall_eq_or_imp,forall_eq,Bool.not_eq_true',decide_eq_true_eq,decide_eq_false_iff_not]at c;obtain⟨b1,b2,b3,b4⟩:=c;simp only[ZI.cJ];rw[if_neg b1,b2];simp only[Bool.not_true,Bool.false_eq_true,if_false,hb];rw[if_neg (fun hn=>hn ⟨dY,b3,by omega⟩),if_pos b4];simp
    ·cases he
   ·cases he
  ·rename_i b off len
   split at he
   ·rename_i sz rows g fz hb
    split at he
    ·rename_i dY
     cases he;obtain⟨a,c⟩:=fU ho;rw[QZ hx a];simp only[fJ,ZI.cJ,List.mem_cons,List.not_mem_nil,or_false,forall_eq_or_imp,forall_eq,Bool.not_eq_true',decide_eq_true_eq,decide_eq_false_iff_not]at c;obtain⟨b1,b2,b3,b4⟩:=c;simp only[ZI.cJ];rw[if_neg b1,b2];simp only[Bool.not_true,Bool.false_eq_true,if_false,hb];rw[if_neg (fun hn=>hn ⟨dY,b3,b4⟩)];simp
    ·cases he
   ·cases he
  ·cases he
theorem Hu {ti:TI} {slot:Nat} {h:Hp} {s x:AV} {o oc VT:List Bool} {new:Rows} {oR:List Nat} {c:Bool} {eg e2:cR} (he:Hs ZI.cJ ti slot h s o new oR=some (oc,c,eg,VT,e2)) (hx:l9 ZI.cJ h x=some (o,new,oR)) (ho:fJ oc) :
  (c=true->cN ti slot h s x=some eg)/\(c=false->fJ VT->cN ti slot h s x=some e2):=by
 unfold Hs at he;split at he
 ·rename_i b off len
  split at he
  ·rename_i sz rows hb
   split at he
   ·rename_i dY
    simp only[Option.some.injEq,Prod.mk.injEq]at he;obtain⟨rfl,rfl,rfl,rfl,rfl⟩:=he;obtain⟨a,c⟩:=fU ho;simp only[fJ,ZI.cJ,List.mem_cons,List.not_mem_nil,or_false,forall_eq_or_imp,forall_eq,Bool.not_eq_true',decide_eq_true_eq,decide_eq_false_iff_not]at c;obtain⟨b1,b2,b3⟩:=c;refine⟨fun b4=>?_,fun b4 b5=>?_⟩
    ·simp only[ZI.cJ,decide_eq_true_eq]at b4
     unfold cN;rw[QZ hx a];simp only[ZI.cJ];rw[if_neg b1,b2];simp only[Bool.not_true,Bool.false_eq_true,if_false,hb];rw[if_neg (fun hn=>hn ⟨dY,b3,by omega⟩),if_pos b4];simp
    ·simp only[ZI.cJ,decide_eq_false_iff_not]at b4
     simp only[fJ,ZI.cJ,List.mem_cons,List.not_mem_nil,or_false,forall_eq,decide_eq_true_eq]at b5;unfold cN;rw[QZ hx a];simp only[ZI.cJ];rw[if_neg b1,b2];simp only[Bool.not_true,Bool.false_eq_true,if_false,hb];rw[if_neg (fun hn=>hn ⟨dY,b3,by omega⟩),if_neg b4,if_pos ⟨b5,trivial⟩]
   ·cases he
  ·cases he
 ·cases he
theorem Fc {ti:TI} {h:Hp} {d x:AV} {o:List Bool} {e:cR} (he:C7 ZI.cJ ti h d x=some (o,e)) (ho:fJ o):lG ti h d x=some e:=by
 unfold C7 at he;unfold lG;split at he
 ·rename_i o1 src oR b off len cp hx
  split at he
  ·rename_i sz rows g hb
   split at he
   ·rename_i dY
    cases he;obtain⟨a,c⟩:=fU ho;rw[QZ hx a];simp only[fJ,ZI.cJ,List.mem_cons,List.not_mem_nil,or_false,forall_eq_or_imp,forall_eq,decide_eq_true_eq]at c;obtain⟨b1,b2,b3⟩:=c;have Sj:min src.length len=src.length:=by omega
    simp only[ZI.cJ,hb];rw[if_pos ⟨b1,b2,dY⟩,Sj];simp
   ·cases he
  ·cases he
 ·cases he
theorem Hv {C:eA} {h:Hp} {t:TypeId} {x:AV} {o:List Bool} {e:cR} (he:Ht ZI.cJ C h t x=some (o,e)):pb C h t x=some e:=by
 unfold Ht at he;split at he
 ·cases he
 ·rename_i ti cZ
  split at he
  ·rename_i hk;cases he;simp only[pb,cZ,hk];rfl
  ·rename_i hk;cases he;simp only[pb,cZ,hk];rfl
  ·obtain⟨e',h1,h2⟩:=Option.map_eq_some_iff.1 he
   cases h2;exact h1
theorem xb {gt:Bool} {l:List AV} {o:List Bool} {e:cR} (he:C8 ZI.cJ gt l=some (o,e)):Ah gt l=some e:=by
 unfold C8 at he;unfold Ah;split at he
 ·split at he
  ·rename_i hk
   cases he;simp only[hk,if_true];cases gt<;>rfl
  ·cases he
 ·cases he
theorem jj {a:Bool} (h:fJ [a]):a=true:=h a (by simp)
theorem uO {a b:Bool} (h:fJ [a,b]):a=true/\b=true:=⟨h a (by simp),h b (by simp)⟩
theorem C9 {C:eA} {h:Hp} {t:TypeId} {x:AV} {lo hi mx:Option AV} {o:List Bool} {e:cR} (he:xa ZI.cJ C h t x lo hi mx=some (o,e)) (ho:fJ o):dq C h t x lo hi mx=some e:=by
 unfold xa at he;split at he
 ·cases he
 ·rename_i ti cZ
  split at he
  ·rename_i e1 b off len cp hk
   split at he
   ·rename_i sz rows g fz te hb dx
    split at he
    ·rename_i dY
     split at he
     ·cases he
      simp only[dq,cZ,hk,hb,dx,Option.getD_none];rw[if_pos (by omega),if_pos (by simp[dY])];simp
     ·rename_i hv
      split at he
      ·rename_i e' hint
       cases he;cases cp
       ·have:=jj ho
        simp only[ZI.cJ,decide_eq_true_eq]at this;simp only[dq,cZ,hk,hb,dx,hint,Option.map_some,Option.getD_some,ZI.cJ];rw[if_pos this,if_pos (by simp[dY])];simp
       ·obtain⟨h1,h2⟩:=uO ho
        simp only[ZI.cJ,decide_eq_true_eq]at h1 h2;simp only[dq,cZ,hk,hb,dx,hint,Option.map_some,Option.getD_some,ZI.cJ];rw[if_pos h1,if_pos (by simp[dY,h2])];simp
      ·cases he
     ·rename_i lv
      split at he
      ·rename_i l hint
       cases he;have:=jj ho;simp only[ZI.cJ,decide_eq_true_eq]at this;simp only[dq,cZ,hk,hb,dx,hint,Option.getD_none,ZI.cJ];rw[if_pos this,if_pos (by simp[dY])]
      ·cases he
     ·rename_i lv hv
      split at he
      ·rename_i l e' hl hint
       cases he;cases cp
       ·have:=jj ho
        simp only[ZI.cJ,decide_eq_true_eq]at this;simp only[dq,cZ,hk,hb,dx,hl,hint,Option.map_some,Option.getD_some,ZI.cJ];rw[if_pos this,if_pos (by simp[dY])]
       ·obtain⟨h1,h2⟩:=uO ho
        simp only[ZI.cJ,decide_eq_true_eq]at h1 h2;simp only[dq,cZ,hk,hb,dx,hl,hint,Option.map_some,Option.getD_some,ZI.cJ];rw[if_pos h1,if_pos (by simp[dY,h2])]
      ·cases he
    ·cases he
   ·obtain⟨e',h1,h2⟩:=Option.map_eq_some_iff.1 he
    cases h2;exact h1
   ·cases he
  ·rename_i e1 cp rows hk
   split at he
   ·rename_i te dx
    split at he
    ·obtain⟨e',h1,h2⟩:=Option.map_eq_some_iff.1 he
     cases h2;exact h1
    ·rename_i hv
     split at he
     ·rename_i e' hint
      cases he;obtain⟨h1,h2⟩:=uO ho;simp only[ZI.cJ,decide_eq_true_eq]at h1 h2;simp only[dq,cZ,hk,dx,hint,Option.map_some,Option.getD_some,ZI.cJ];rw[if_pos h1,if_pos h2];cases cp<;>simp[Bool.beq_eq_decide_eq]
     ·cases he
    ·rename_i lv
     split at he
     ·rename_i l hint
      cases he;obtain⟨h1,h2⟩:=uO ho;simp only[ZI.cJ,decide_eq_true_eq]at h1 h2;simp only[dq,cZ,hk,dx,hint,Option.getD_none,ZI.cJ];rw[if_pos h1,if_pos h2];simp
     ·cases he
    ·rename_i lv hv
     split at he
     ·rename_i l e' hl hint
      cases he;obtain⟨h1,h2⟩:=uO ho;simp only[ZI.cJ,decide_eq_true_eq]at h1 h2;simp only[dq,cZ,hk,dx,hl,hint,Option.map_some,Option.getD_some,ZI.cJ];rw[if_pos h1,if_pos h2];cases cp<;>simp[Bool.beq_eq_decide_eq]
     ·cases he
   ·cases he
  ·rename_i e1 b off len cp mv hk
   split at he
   ·rename_i sz rows g fz te hv hb dx
    split at he
    ·rename_i e' m' hint hm
     split at he
     ·rename_i dY
      cases he;obtain⟨h1,h2⟩:=uO ho;simp only[ZI.cJ,decide_eq_true_eq]at h1 h2;simp only[dq,cZ,hk,hb,dx,hint,hm,Option.map_some,Option.getD_some,ZI.cJ];rw[if_pos h1,if_pos ⟨h2,rfl,dY⟩];simp
     ·cases he
    ·cases he
   ·obtain⟨e',h1,h2⟩:=Option.map_eq_some_iff.1 he
    cases h2;exact h1
  ·obtain⟨e',h1,h2⟩:=Option.map_eq_some_iff.1 he
   cases h2;exact h1
theorem xd {C:eA} {h:Hp} {src dst:TypeId} {x:AV} {o:List Bool} {e:cR} (he:qq ZI.cJ C h src dst x=some (o,e)) (ho:fJ o):eK C h src dst x=some e:=by
 unfold qq at he;split at he
 ·rename_i ts td k0 n h1 h2
  split at he
  ·rename_i k1 k2 e1 e2
   cases he;simp only[eK,h1,h2,e1,e2];rfl
  ·obtain⟨e',q1,q2⟩:=Option.map_eq_some_iff.1 he
   cases q2;exact q1
 ·rename_i ts td x0 h1 h2 hn
  split at he
  ·rename_i e0 k1 k2
   split at he
   ·rename_i te o2 rows rd dx hr
    split at he
    ·rename_i q1 q2
     split at he
     ·rename_i s hs
      cases he;have vx:=QZ hr ho;obtain⟨b,mZ,nk⟩:=Option.map_eq_some_iff.1 (show(ez rows).map _=some s from hs);subst nk;unfold eK;simp only[h1,h2,k1,k2,dx,vx,q1,q2,mZ]
     ·cases he
    ·cases he
   ·cases he
  ·obtain⟨e',q1,q2⟩:=Option.map_eq_some_iff.1 he
   cases q2;exact q1
 ·obtain⟨e',q1,q2⟩:=Option.map_eq_some_iff.1 he
  cases q2;exact q1
theorem py {h:Hp} {size:Nat}:∀ {l:List (Nat×AV)} {rows r:List (List Tree)} {o:List Bool} {m:List (Nat×Option aA)},oB ZI.cJ h size rows l=some (o,r,m)->fJ o->fC h size rows l=some (r,m)
 | [],rows,r,o,m,he,ho=>by cases he;rfl
 | (i,v)::rest,rows,r,o,m,he,ho=>by
  unfold oB at he;unfold fC;split at he
  ·rename_i x hx
   split at he
   ·rename_i hc
    split at he
    ·rename_i o1 ts m1 h1
     split at he
     ·rename_i os r1 ms h2
      cases he;obtain⟨a,b⟩:=fU ho;simp only[hx];rw[if_pos hc,jo h1 a];simp only;rw[py h2 b]
     ·cases he
    ·cases he
   ·cases he
  ·cases he
theorem nJ {k:Value} {t:Tree}:∀ {l:List (Value×Tree)} {r:Option Tree},df k l=some r->∃l',gk k t l=some l'
 | [],r,h=>⟨_,rfl⟩
 | e::es,r,h=>by
  simp only[df]at h;simp only[gk];split at h
  ·exact⟨_,rfl⟩
  ·rename_i hk
   obtain⟨l',hl⟩:=nJ (t:=t) h;exact⟨_,by rw[hl];rfl⟩
  ·cases h
theorem vI {k:IntKind} {l:Rows} {i:Nat} (h:ZI.cJ.gM k l i=true):l[i]?=some [.v (.int k (ZI.cJ.dK l i))]:=by
 simp only[ZI.cJ]at h ⊢;split at h
 ·rename_i k' x hx
  rw[hx];simp only[beq_iff_eq]at h;subst h;rfl
 ·cases h
theorem Fe:∀(a b:List Cell),vH ZI.cJ a b=kj a b:=by
 intro a
 induction a with
 | nil=>intro b;cases b<;>rfl
 | cons c a ih=>
  intro b;unfold vH kj;split<;>simp_all<;>rfl
theorem nK {C:eA} {slot:Nat} {σ:Operand->AV} {h:Hp} {op:Op} {o:List Bool} {e:cR} (he:ma ZI.cJ C slot σ h op=some (o,e)) (ho:fJ o):evalOp C slot σ h op=some e:=by
 have oX:∀ {q:Option cR},(q.map fun e=>(([]:List Bool),e))=some (o,e)->q=some e:=fun {q} hq=>by
  obtain⟨e',h1,h2⟩:=Option.map_eq_some_iff.1 hq;cases h2;exact h1
 unfold ma at he;split at he
 ·rename_i op t x y t'
  split at he
  ·rename_i k a k' b hx hy
   split at he
   ·rename_i o1 v h1
    cases he;simp only[evalOp,hx,hy,J9 h1 ho,Option.map_some]
   ·cases he
  ·rename_i a b hx hy
   split at he
   ·rename_i ti cZ
    split at he
    ·rename_i hk;cases he;simp only[evalOp,hx,hy,cZ,hk];rfl
    ·rename_i hk;cases he;simp only[evalOp,hx,hy,cZ,hk];rfl
    ·cases he
   ·cases he
  ·rename_i a b hx hy
   rw[Fe]at he;simp only[evalOp,hx,hy];split at he
   ·rename_i e1 h1
    cases he;rw[h1]
   ·rename_i h1
    rw[h1];exact oX he
  ·exact oX he
 ·rename_i op t x
  split at he
  ·rename_i a hx
   simp only[evalOp,hx];obtain⟨v,h1,h2⟩:=Option.map_eq_some_iff.1 he;cases h2;have:XH op a=Sz ZI.cJ op a:=by unfold XH Sz ZI.cJ;rfl
   rw[this,h1];rfl
  ·cases he
 ·exact xd he ho
 ·exact C9 he ho
 ·rename_i t len parts
  simp only[evalOp];split at he
  ·rename_i ti cZ
   split at he
   ·rename_i el hk
    split at he
    ·rename_i te dx
     split at he
     ·rename_i hc
      split at he
      ·rename_i e1 h1
       cases he;simp only[cZ,hk,dx];rw[if_pos hc,h1]
      ·rename_i h0
       split at he
       ·rename_i o1 rows m h1
        cases he;simp only[cZ,hk,dx];rw[if_pos hc,h0,py h1 ho]
       ·cases he
     ·cases he
    ·cases he
   ·cases he
  ·cases he
 ·rename_i t a
  split at he
  ·rename_i ti cZ
   split at he
   ·rename_i b r c hx
    split at he
    ·rename_i sz rows g fz hb
     split at he
     ·rename_i k hk
      split at he
      ·rename_i hc
       cases he;obtain⟨rfl,rfl⟩:=hc;have:=vI (jj ho);simp only[evalOp,cZ,hx,hb,this,hk,TK.agg,dn];simp[ep]
      ·cases he
     ·split at he
      ·rename_i row dk
       have Ff:rows[r]?=some row:=dk;simp only[evalOp,cZ,hx,hb,Ff];obtain⟨v,h1,h2⟩:=Option.map_eq_some_iff.1 he;cases h2;rw[h1];rfl
      ·cases he
    ·exact oX he
   ·exact oX he
  ·cases he
 ·rename_i t a x
  split at he
  ·rename_i ti cs cZ pP
   split at he
   ·rename_i b r c hx
    split at he
    ·rename_i sz rows g hb
     split at he
     ·rename_i hlen
      split at he
      ·rename_i k k' n hk
       split at he
       ·rename_i hc
        cases he;obtain⟨rfl,rfl,rfl⟩:=hc;have:=vI (jj ho);simp only[evalOp,cZ,pP,hx,hb,this];rw[if_pos hlen];simp only[bS,toTree,List.append_nil];rw[if_pos (by simp[ids])];simp[aZ,ids,ZI.cJ]
       ·cases he
      ·split at he
       ·rename_i row o1 ts m dk h1
        split at he
        ·rename_i hc
         cases he;have Ff:rows[r]?=some row:=dk;simp only[evalOp,cZ,pP,hx,hb,Ff,jo h1 ho];rw[if_pos hlen,if_pos hc];rfl
        ·cases he
       ·cases he
     ·cases he
    ·exact oX he
   ·exact oX he
  ·cases he
 ·rename_i t l c
  split at he
  ·rename_i pP
   simp only[evalOp];split at he
   ·rename_i ti cZ
    split at he
    ·rename_i el hk
     split at he
     ·rename_i te n m dx hn hm
      split at he
      ·rename_i z hz
       split at he
       ·rename_i hc
        cases he;have:=jj ho;simp only[ZI.cJ,decide_eq_true_eq]at this;simp only[cZ,hk,dx,hn,hm];rw[if_pos ⟨this.1,this.2.1,this.2.2,hc.1,hc.2⟩];simp only[pP,hz];rfl
       ·cases he
      ·cases he
     ·cases he
    ·cases he
   ·cases he
  rename_i pP;simp only[evalOp];split at he
  ·rename_i ti cZ
   split at he
   ·rename_i el hk
    split at he
    ·rename_i te n m dx hn hm
     split at he
     ·rename_i hc
      cases he;have:=jj ho;simp only[ZI.cJ,decide_eq_true_eq]at this;simp only[cZ,hk,dx,hn,hm];rw[if_pos ⟨this.1,this.2.1,this.2.2,hc.1,hc.2⟩];simp only[pP];rfl
     ·cases he
    ·cases he
   ·cases he
  ·cases he
 ·rename_i t x i
  split at he
  ·rename_i ti n cZ hn
   split at he
   ·rename_i el hk
    split at he
    ·rename_i te dx
     split at he
     ·rename_i b off len cp hx
      split at he
      ·rename_i sz rows g fz hb
       split at he
       ·rename_i dY
        cases he;have:=jj ho;simp only[ZI.cJ,decide_eq_true_eq]at this;simp only[evalOp,cZ,hn,hk,dx,hx,hb];rw[if_pos ⟨this.1,this.2,dY⟩];rfl
       ·cases he
      ·exact oX he
      ·cases he
     ·rename_i cp rows hx
      split at he
      ·rename_i k JM
       split at he
       ·rename_i dY
        cases he;obtain⟨h1,h2⟩:=uO ho;have IH:=vI h2;simp only[ZI.cJ,decide_eq_true_eq]at h1;have aar:rows[n.toNat]?=some [.v (.int k (ZI.cJ.dK rows (ZI.cJ.nat n)))]:=IH;simp only[evalOp,cZ,hn,hk,dx,hx,aar];rw[if_pos h1,if_pos (by simp[dY])]
       ·cases he
      ·split at he
       ·rename_i row dk
        split at he
        ·rename_i dY
         cases he;have h1:=jj ho;simp only[ZI.cJ,decide_eq_true_eq]at h1;have Ff:rows[n.toNat]?=some row:=dk;simp only[evalOp,cZ,hn,hk,dx,hx,Ff];rw[if_pos h1,if_pos dY]
        ·cases he
       ·cases he
     ·cases he
    ·cases he
   ·rename_i len el hk
    split at he
    ·rename_i te dx
     split at he
     ·rename_i row c JM hx
      split at he
      ·rename_i dY
       cases he;have:=jj ho;simp only[ZI.cJ,decide_eq_true_eq]at this;simp only[evalOp,cZ,hn,hk,dx,hx];rw[if_pos ⟨this.1,this.2⟩,dY,Nat.mul_one];rfl
      ·cases he
     ·exact oX he
    ·cases he
   ·exact oX he
  ·cases he
 ·rename_i b args argTypes
  simp only[evalOp];split at he
  ·rename_i x t hx ht
   simp only[ht,hx];exact Hv he
  ·rename_i s x t hx ht
   simp only[ht,hx];split at he
   ·rename_i ti cZ
    split at he
    ·rename_i el hk
     split at he
     ·rename_i te t1 dx yt
      split at he
      ·rename_i OC CL
       split at he
       ·rename_i e1 GF
        split at he
        ·cases he
        ·rename_i hz
         simp only[cZ,hk,dx,yt,CL,GF];rw[if_neg hz];exact yE he ho
       ·cases he
      ·cases he
     ·cases he
    ·cases he
   ·cases he
  ·rename_i d x t hx ht
   simp only[ht,hx];split at he
   ·rename_i ti cZ
    split at he
    ·rename_i el hk
     split at he
     ·rename_i te dx
      split at he
      ·cases he
      ·rename_i hz
       simp only[cZ,hk,dx];rw[if_neg hz];exact Fc he ho
     ·cases he
    ·cases he
   ·cases he
  ·rename_i x y hx
   simp only[hx];exact xb he
  ·rename_i x y hx
   simp only[hx];exact xb he
  ·cases he
 ·rename_i t x i
  split at he
  ·rename_i ti n cZ hn
   split at he
   ·rename_i s hk hx
    cases he;obtain⟨h1,h2⟩:=uO ho;simp only[ZI.cJ,decide_eq_true_eq]at h1;have h3:=vI h2;simp only[evalOp,cZ,hn,hk,hx];rw[if_pos h1];have h4:(vG s)[ZI.cJ.nat n]?=(s.data.toList[n.toNat]?).map fun b=>[Tree.v (.int .u8 b.toNat)]:=by
     unfold vG;rw[List.getElem?_map];rfl
    rw[h4]at h3;obtain⟨b,hb,nk⟩:=Option.map_eq_some_iff.1 h3;have h5:s[n.toNat]?=some b:=by
     have bJ:n.toNat<s.data.toList.length:=(List.getElem?_eq_some_iff.1 hb).1;have tx:n.toNat<s.size:=bJ;have e1:=(List.getElem?_eq_some_iff.1 hb).2;rw[getElem?_pos s n.toNat tx];congr 1
    rw[h5];simp only[Option.some.injEq];simp only[List.cons.injEq,Tree.v.injEq,Value.int.injEq,true_and,and_true]at nk;rw[<-nk]
   ·exact oX he
  ·cases he
 ·rename_i t x i ok
  split at he
  ·rename_i ti cZ
   split at he
   ·rename_i k e1 b key hk hx hi
    split at he
    ·rename_i de tk te hb fc dx
     split at he
     ·rename_i q1 q2 q3
      cases he;have h1:=jj ho;simp only[evalOp,cZ,hk,hx,hi,hb,fc,dx,q3,q1,TK.agg,Bool.not_true,Bool.or_self,Bool.false_eq_true,if_false,q2];simp only[ZI.cJ]at h1 ⊢;split at h1
      ·rename_i hf;simp[hf,ep]
      ·rename_i bb hf;simp[hf,ep]
      ·cases h1
     ·rename_i ik z q1 q2 q3
      split at he
      ·rename_i t0 hf
       cases he;simp only[evalOp,cZ,hk,hx,hi,hb,fc,dx,q3,q1,TK.agg,Bool.not_true,Bool.or_self,Bool.false_eq_true,if_false,q2,show df key de=some (some t0) from hf]
      ·rename_i hf
       cases he;simp only[evalOp,cZ,hk,hx,hi,hb,fc,dx,q3,q1,TK.agg,Bool.not_true,Bool.or_self,Bool.false_eq_true,if_false,q2,show df key de=some none from hf]
      ·cases he
     ·exact oX he
    ·rename_i de tk te hb fc dx
     split at he
     ·rename_i ik z q1 q2 q3
      split at he
      ·rename_i t0 hf
       cases he;simp only[evalOp,cZ,hk,hx,hi,hb,fc,dx,q3,q1,TK.agg,Bool.not_true,Bool.or_self,Bool.false_eq_true,if_false,if_true,q2,show df key de=some (some t0) from hf]
      ·rename_i hf
       cases he;simp only[evalOp,cZ,hk,hx,hi,hb,fc,dx,q3,q1,TK.agg,Bool.not_true,Bool.or_self,Bool.false_eq_true,if_false,if_true,q2,show df key de=some none from hf]
      ·cases he
     ·exact oX he
    ·exact oX he
   ·cases he
  ·cases he
 ·rename_i t x i v
  split at he
  ·rename_i ti cZ
   split at he
   ·rename_i k e1 b key y hk hx hi hv
    split at he
    ·rename_i de tk te hb fc dx
     split at he
     ·rename_i q1 q2
      cases he;have h1:=jj ho;simp only[evalOp,cZ,hk,hx,hi,hv,hb,fc,q2,Bool.not_true,Bool.false_eq_true,if_false];obtain⟨es,hes⟩:∃es,gk key (.v (.bool y)) de=some es:=by
       have:df key de≠none:=by
        intro hn;simp only[ZI.cJ,hn]at h1;cases h1
       obtain⟨r,hr⟩:=Option.ne_none_iff_exists'.1 this;exact nJ hr
      simp only[hes,ZI.cJ,Option.getD_some]
     ·exact oX he
    ·cases he
   ·rename_i k e1 b key ik y hk hx hi hv
    split at he
    ·rename_i de tk hb fc
     split at he
     ·rename_i r q1 q2
      cases he;obtain⟨es,hes⟩:=nJ (t:=.v (.int ik y)) (show df key de=some r from q2);simp only[evalOp,cZ,hk,hx,hi,hv,hb,fc,q1,Bool.not_true,Bool.false_eq_true,if_false,hes,ZI.cJ,Option.getD_some]
     ·cases he
    ·cases he
   ·exact oX he
  ·cases he
 ·exact oX he
section
variable (Z:ZI) (C:eA)
def IW (h:Hp):AV->OZ (TV×List (Nat×Option aA))
 | .c c=>match vF Z h c with
  | some (o,t,m)=>some (o,.c t,m)
  | none=>none
 | .agg l=>match kU Z h l with
  | some (o,ts,m)=>some (o,.agg ts,m)
  | none=>none
 | _=>none
def xe (h:Hp):Mode->AV->OZ (Arg×List (Nat×Option aA)×bK)
 | .val,.c (.dA f aN)=>some ([],.dA f aN,[],.none)
 | .val,x=>match IW Z h x with
  | some (o,v,m)=>some (o,.val v,m,.none)
  | none=>none
 | .fu,.c (.sl b off len false)=>match h b with
  | some (.rows sz rows _ false)=>some ([Z.fit off len rows],.fu sz (Z.part rows off len),[],.fu b off len)
  | _=>none
 | .own sz,.c (.sl b 0 len false)=>match h b with
  | some (.rows lA rows true false)=>if lA=sz then some ([Z.neq len (Z.len rows)],.own sz rows,[],.own b) else none
  | _=>none
 | .own sz,.c (.t (.aa true []))=>some ([],.own sz [],[],.none)
 | .rd,.c (.sl b off len false)=>match h b with
  | some (.rows sz rows _ false)=>some ([Z.fit off len rows],.fu sz (Z.part rows off len),[],.fu b off len)
  | _=>none
 | .rd,x=>match IW Z h x with
  | some (o,v,m)=>some (o,.val v,m,.none)
  | none=>none
 | .ref,.c (.ptr b 0 0)=>match h b with
  | some (.var cells)=>match bS h cells with
   | some (ts,[])=>some ([],.ref ts,[],.ref b)
   | _=>none
  | _=>none
 | _,_=>none
def kV (h:Hp):List Mode->List AV->OZ (List Arg×List (Nat×Option aA)×List bK)
 | [],[]=>some ([],[],[],[])
 | m::ms,x::xs=>match xe Z h m x,kV h ms xs with
  | some (o,a,k,b),some (os,as,ks,bs)=>some (o++os,a::as,k++ks,b::bs)
  | _,_=>none
 | _,_=>none
def tL (h:Hp) (ms:List Mode) (xs:List AV):OZ (List Arg×List (Nat×Option aA)×List bK):=
 match kV Z h ms xs with
 | none=>none
 | some (o,as,ks,bs)=>match pk as []with
  | []=>some (o,as,ks,bs)
  | g::gs=>match kr h (g::gs) with
   | some As=>some (o,pY (g::gs) as.length as++As,ks,bs++ri (g::gs))
   | none=>none
def iK (h:Hp):List bK->List (Option aA)->OZ (List (Nat×Option aA))
 | [],[]=>some ([],[])
 | .none::bs,_::os=>iK h bs os
 | .own b::bs,_::os=>(iK h bs os).map fun p=>(p.1,(b,none)::p.2)
 | .fu b off len::bs,some (.rows sz r false false)::os=>match h b with
  | some (.rows lA rows g false)=>if lA=sz then(iK h bs os).map fun p=>(Z.neq (Z.len r) len::p.1,(b,some (.rows lA (Z.yD rows off r) g false))::p.2) else none
  | _=>none
 | .ref b::bs,some (.var cs)::os=>match h b with
  | some (.var gL)=>if cs.length=gL.length then(iK h bs os).map fun p=>(p.1,(b,some (.var cs))::p.2) else none
  | _=>none
 | _,_=>none
def oC (slot:Nat):List RC->List AV×List (Nat×Option aA)
 | []=>([],[])
 | .val x::rs=>match oC slot rs with
  | (a,b)=>(x.av::a,b)
 | .own sz rows::rs=>match oC (slot+1) rs with
  | (a,b)=>(.c (.sl slot 0 (Z.len rows) false)::a,(slot,some (.rows sz rows true false))::b)
def xf (h:Hp) (slot:Nat) (marks:List (Nat×Option aA)) (dV:List bK) (res:ko):OZ cR:=
 match oC Z slot res.aW,dV.filterMap bK.id with
 | (bL,aat),is=>
  if(res.aW.all RC.scalar)&&is.isEmpty then some ([],{ val:=He bL,rd:=Go.Abs.ids marks })
  else if !(is.all fun i=>!((Go.Abs.ids marks).contains i)) || !decide is.Nodup || !decide ((res.aW.filter RC.nr).length<=2) then none
  else match iK Z h dV res.out with
   | some (o,bw)=>some (o,{ val:=He bL,wr:=marks++bw++aat,rd:=Go.Abs.ids marks++is })
   | none=>none
end
inductive TM where
 | leaf (x:AV)
 | node (h:Nat) (l r:TM)
def TM.get:TM->Nat->AV
 | .leaf x,_=>x
 | .node h l r,i=>if i<h then l.get i else r.get (i-h)
def TM.set:TM->Nat->AV->TM
 | .leaf _,_,x=>.leaf x
 | .node h l r,i,x=>if i<h then .node h (l.set i x) r else .node h l (r.set (i-h) x)
def TM.ok:TM->Nat->Prop
 | .leaf _,n=>n<=1
 | .node h l r,n=>l.ok (Min.min n h)/\r.ok (n-h)
def TM.Pj:TM->Nat->List AV->List AV
 | .leaf x,n,acc=>if n=0 then acc else x::acc
 | .node h l r,n,acc=>l.Pj (Min.min n h) (r.Pj (n-h) acc)
def TM.Uu:Nat->List AV->TM
 | _,[]=>.leaf .af
 | 0,x::_=>.leaf x
 | k+1,x::l=>.node (2^k) (TM.Uu k ((x::l).take (2^k))) (TM.Uu k ((x::l).drop (2^k)))
theorem TM.Da:∀(t:TM) (n d i:Nat) (x:AV),t.ok n->d<n->i<n->(t.set d x).get i=if i=d then x else t.get i
 | .leaf y,n,d,i,x,h,hd,hi=>by
  have h:n<=1:=h;have:i=d:=by omega
  rw[if_pos this];rfl
 | .node h l r,n,d,i,x,ho,hd,hi=>by
  obtain⟨h1,h2⟩:=ho;simp only[TM.set]
  by_cases hdh:d<h
  ·rw[if_pos hdh]
   simp only[TM.get]
   by_cases LA:i<h
   ·rw[if_pos LA,if_pos LA,TM.Da l _ d i x h1 (by omega) (by omega)]
   ·rw[if_neg LA,if_neg LA,if_neg (by omega)]
  ·rw[if_neg hdh]
   simp only[TM.get]
   by_cases LA:i<h
   ·rw[if_pos LA,if_pos LA,if_neg (by omega)]
   ·rw[if_neg LA,if_neg LA,TM.Da r _ (d-h) (i-h) x h2 (by omega) (by omega)]
    by_cases he:i=d
    ·rw[if_pos (by omega),if_pos he]
    ·rw[if_neg (by omega),if_neg he]
theorem TM.Db:∀(t:TM) (n d:Nat) (x:AV),t.ok n->(t.set d x).ok n
 | .leaf y,n,d,x,h=>h
 | .node h l r,n,d,x,ho=>by
  simp only[TM.set];split
  ·exact⟨TM.Db l _ d x ho.1,ho.2⟩
  ·exact⟨ho.1,TM.Db r _ _ x ho.2⟩
theorem TM.tM:∀(t:TM) (n:Nat) (acc:List AV),t.ok n->(t.Pj n acc).length=n+acc.length/\∀i,(i<n->(t.Pj n acc)[i]?=some (t.get i))/\(t.Pj n acc)[n+i]?=acc[i]?
 | .leaf x,n,acc,h=>by
  have h:n<=1:=h;simp only[TM.Pj];split
  ·rename_i h0;subst h0;refine⟨by simp,fun i=>⟨fun hi=>by omega,by simp⟩⟩
  ·rename_i h0
   have:n=1:=by omega
   subst this;refine⟨by simp;omega,fun i=>⟨fun hi=>?_,?_⟩⟩
   ·have:i=0:=by omega
    subst this;rfl
   ·rw[Nat.add_comm];simp
 | .node h l r,n,acc,ho=>by
  obtain⟨h1,h2⟩:=ho;obtain⟨e1,e2⟩:=TM.tM r (n-h) acc h2;obtain⟨e3,e4⟩:=TM.tM l (Min.min n h) (r.Pj (n-h) acc) h1;simp only[TM.Pj];refine⟨by rw[e3,e1];omega,fun i=>⟨fun hi=>?_,?_⟩⟩
  ·simp only[TM.get]
   by_cases LA:i<h
   ·rw[if_pos LA];exact(e4 i).1 (by omega)
   ·rw[if_neg LA]
    have:=(e4 (i-h)).2;rw[show Min.min n h+(i-h)=i by omega]at this;rw[this];exact(e2 (i-h)).1 (by omega)
  ·have:=(e4 (n-h+i)).2
   rw[show Min.min n h+(n-h+i)=n+i by omega]at this;rw[this];exact(e2 i).2
theorem TM.Dc:∀(k:Nat) (l:List AV),l.length<=2^k->(TM.Uu k l).ok l.length/\∀i,i<l.length->(TM.Uu k l).get i=l.getD i .af
 | k,[],h=>by
  cases k<;>exact⟨Nat.zero_le _,fun i hi=>by simp at hi⟩
 | 0,x::l,h=>by
  have h:(x::l).length<=1:=h;have hl:l=[]:=by simpa using h
  subst hl;exact⟨Nat.le_refl 1,fun i hi=>by
   have:i=0:=by simpa using hi
   subst this;rfl⟩
 | k+1,x::l,h=>by
  have hp:2^(k+1)=2^k+2^k:=by rw[Nat.pow_succ];omega
  obtain⟨a1,a2⟩:=TM.Dc k ((x::l).take (2^k)) (by rw[List.length_take];omega);obtain⟨b1,b2⟩:=TM.Dc k ((x::l).drop (2^k)) (by rw[List.length_drop];omega);rw[List.length_take]at a1 a2;rw[List.length_drop]at b1 b2;refine⟨⟨by rw[Nat.min_comm];exact a1,b1⟩,fun i hi=>?_⟩;simp only[TM.Uu,TM.get]
  by_cases O9:i<2^k
  ·rw[if_pos O9,a2 i (by omega)]
   simp only[List.getD_eq_getElem?_getD,List.getElem?_take,if_pos O9]
  ·rw[if_neg O9,b2 (i-2^k) (by omega)]
   simp only[List.getD_eq_getElem?_getD,List.getElem?_drop];rw[show 2^k+(i-2^k)=i by omega]
structure ST where
 n:Nat
 tm:TM
 heap:bU
 lit:List Nat
def ST.get (st:ST):Operand->AV
 | .tmp t=>if t<st.n then st.tm.get t else .af
 | .const v=>ofConst v
 | .func f=>.c (.t (.v (.func (.func f) #[] #[])))
 | .global _=>.af
def ST.fO (st:ST):St:=⟨st.tm.Pj st.n [],st.heap⟩
def vJ (n:Nat):Nat:=if n<=16 then 4 else if n<=64 then 6 else if n<=256 then 8 else if n<=1024 then 10 else n
def ST.mb (st:St):ST:=⟨st.tmps.length,TM.Uu (vJ st.tmps.length) st.tmps,st.heap,[]⟩
def ST.ok (st:ST):Prop:=st.tm.ok st.n
def ST.app (st:ST) (o:Oper) (e:cR):ST:=⟨st.n,match o.dst with|some d=>if d<st.n then st.tm.set d e.val else st.tm|none=>st.tm,eR st.heap e.wr,st.lit⟩
def ST.ext (st:ST) (n:Nat):ST:=⟨st.n,st.tm,st.heap++List.replicate n none,st.lit⟩
def ST.addLit (st:ST) (b:Bool) (o:Oper):ST:=match o.dst with
 | none=>st
 | some d=>match b with
  | true=>⟨st.n,st.tm,st.heap,d::st.lit⟩
  | false=>match st.lit.contains d with
   | true=>⟨st.n,st.tm,st.heap,st.lit.filter (fun x=>!(x==d))⟩
   | false=>st
def yF (l:List Nat):Operand->Bool
 | .const _=>true
 | .tmp t=>l.contains t
 | _=>false
def IX (st:ST):Op->Bool
 | .move x=>yF st.lit x
 | .assign x=>yF st.lit x
 | .pick c a b=>match yF st.lit c with
  | true=>match(st.get c).bool? with
   | some true=>yF st.lit a
   | some false=>yF st.lit b
   | none=>false
  | false=>false
 | .unOp _ _ x=>yF st.lit x
 | _=>false
theorem ST.getD (st:ST) (h:st.ok) (t:Nat):st.fO.tmps.getD t .af=if t<st.n then st.tm.get t else .af:=by
 obtain⟨h1,h2⟩:=TM.tM st.tm st.n [] h;unfold ST.fO;simp only[List.getD_eq_getElem?_getD];split
 ·rename_i ht;rw[(h2 t).1 ht];rfl
 ·rename_i ht
  rw[List.getElem?_eq_none (by rw[h1];simp;omega)];rfl
theorem ST.get_eq (st:ST) (h:st.ok) (x:Operand):st.fO.get x=st.get x:=by
 cases x with
 | tmp t=>exact ST.getD st h t
 | _=>rfl
theorem ST.SA {st:ST} (h:st.ok) (o:Oper) (e:cR):(st.app o e).ok:=by
 unfold ST.app ST.ok;simp only;split
 ·split
  ·exact TM.Db _ _ _ _ h
  ·exact h
 ·exact h
theorem pz {l m:List AV} (h:l.length=m.length) (hi:∀i,i<l.length->l[i]?=m[i]?):l=m:=by
 apply List.ext_getElem?;intro i;rcases Nat.lt_or_ge i l.length with h1|h1
 ·exact hi i h1
 ·rw[List.getElem?_eq_none h1,List.getElem?_eq_none (by omega)]
theorem ST.MG {st:ST} (h:st.ok) (o:Oper) (e:cR):(st.app o e).fO=st.fO.app o e:=by
 unfold ST.app ST.fO St.app;obtain⟨h1,h2⟩:=TM.tM st.tm st.n [] h;simp only[St.mk.injEq,and_true];cases hd:o.dst with
 | none=>rfl
 | some d=>
  simp only
  by_cases VU:d<st.n
  ·rw[if_pos VU]
   obtain⟨h3,h4⟩:=TM.tM (st.tm.set d e.val) st.n [] (TM.Db _ _ _ _ h);refine pz (by rw[h3,List.length_set,h1]) fun i hi=>?_
   rw[h3]at hi;simp only[List.length_nil,Nat.add_zero]at hi;rw[(h4 i).1 hi,TM.Da _ _ _ _ _ h VU hi,List.getElem?_set,h1]
   by_cases he:i=d
   ·subst he;simp[VU]
   ·rw[if_neg he,if_neg (Ne.symm he)];exact((h2 i).1 hi).symm
  ·rw[if_neg VU]
   simp only[List.length_nil,Nat.add_zero]at h1;exact(List.set_eq_of_length_le (by rw[h1];exact Nat.le_of_not_lt VU)).symm
theorem ST.oD (st:ST):st.fO.heap=st.heap:=rfl
theorem xg (n:Nat):n<=2^vJ n:=by
 unfold vJ;split
 ·omega
 ·split
  ·omega
  ·split
   ·omega
   ·split
    ·omega
    ·exact Nat.le_of_lt Nat.lt_two_pow_self
theorem ST.mc (st:St):(ST.mb st).ok:=(TM.Dc _ _ (xg _)).1
theorem ST.iw (st:St):(ST.mb st).fO=st:=by
 obtain⟨a,b⟩:=TM.Dc (vJ st.tmps.length) st.tmps (xg _);obtain⟨h1,h2⟩:=TM.tM _ _ [] a;unfold ST.mb ST.fO;cases st with
 | mk tmps heap=>
 simp only[St.mk.injEq,and_true];simp only at h1 h2 b;refine pz (by rw[h1];simp) fun i hi=>?_
 rw[h1]at hi;simp only[List.length_nil,Nat.add_zero]at hi;rw[(h2 i).1 hi,b i hi,List.getD_eq_getElem?_getD,List.getElem?_eq_getElem hi];rfl
section
variable (Z:ZI) (C:eA)
def VV (ops:List Oper) (x:Operand):Bool:=
 match x with
 | .tmp t=>ops.any fun o=>match o.dst,o.op with
  | some d,.buildSlice _ n _=>d==t&&decide (0<n)
  | _,_=>false
 | _=>false
def Dd (st:ST) (ops:List Oper) (o:Oper):Option Bool:=
 match o.guard with
 | none=>some true
 | some (j,want)=>match(ops[j]?).bind (·.dst) with
  | some d=>CM want (st.get (.tmp d))
  | none=>none
def De (A:FuncId->Ask->oV->Prop) (ops:List Oper) (slot:Nat) (o:Oper) (st:ST) (k:cR->Prop):Prop:=
 match Dd st ops o with
 | none=>False
 | some false=>k ru
 | some true=>
  match o.op with
  | .call { callee:=.value f,args,.. }=>
   match tD (st.get f) (args.toList.map st.get) with
   | none=>False
   | some (sX,bL)=>
    match C.md sX with
    | .sh _::_=>
     match qf (look st.heap) bL with
     | none=>False
     | some (ids,s)=>∃s',A sX (.h s) (.h s')/\match wE ids slot (slotsOf C o.op) s' with
      | some e=>k e
      | none=>False
    | ms=>
     match tL Z (look st.heap) ms bL with
     | none=>False
     | some (ob,as,marks,dV)=>nH ob (∃res,A sX (.a as) (.a res)/\match xf Z (look st.heap) slot marks dV res with
      | some (Uk,e)=>nH Uk (k e)
      | none=>False)
  | .call { callee:=.builtin .append,args,argTypes }=>
   match args.toList with
   | [s,x]=>
    match VV ops x with
    | true=>match ma Z C slot st.get (look st.heap) (.call { callee:=.builtin .append,args,argTypes }) with
     | some (ob,e)=>nH ob (k e)
     | none=>False
    | false=>
     match l9 Z (look st.heap) (st.get x),GY (st.get s),ma Z C slot st.get (look st.heap) (.call { callee:=.builtin .append,args,argTypes }) with
     | some (o1,new,oR),true,some (ob,e)=>Br (Z.neq (Z.len new) 0) (nH o1 (k { val:=st.get s,rd:=oR })) (match(MF C argTypes).bind fun te=>Hs Z te slot (look st.heap) (st.get s) o1 new oR with
      | some (oc,c,eg,VT,e2)=>nH oc (Br c (k eg) (nH VT (k e2)))
      | none=>nH ob (k e))
     | _,_,_=>False
   | _=>False
  | op=>match ma Z C slot st.get (look st.heap) op with
   | some (ob,e)=>nH ob (k e)
   | none=>False
def oE (ops:List Oper):List Oper->List Nat->List Nat
 | [],acc=>acc
 | o::os,acc=>match o.guard with
  | some (j,_)=>match(ops[j]?).bind (·.dst) with
   | some d=>match acc.contains d with
    | true=>oE ops os acc
    | false=>oE ops os (d::acc)
   | none=>oE ops os acc
  | none=>oE ops os acc
def tO (gs:List Nat) (lit:Bool) (o:Oper) (e:cR) (k:Bool->cR->Prop):Prop:=
 match gs with
 | []=>k lit e
 | g::gs=>match o.dst with
  | none=>k lit e
  | some d=>match(g::gs).contains d with
   | true=>match lit with
    | true=>k true e
    | false=>match e.val.bool? with
     | some b=>Br b (k true { e with val:=ep (.bool true) }) (k true { e with val:=ep (.bool false) })
     | none=>k false e
   | false=>k lit e
def AN (A:FuncId->Ask->oV->Prop) (ops:List Oper) (gs:List Nat):List Oper->Nat->ST->List cR->(List cR->ST->Prop)->Prop
 | [],_,st,tr,Q=>Q tr st
 | o::os,slot,st,tr,Q=>De Z C A ops slot o st fun e=>tO gs (IX st o.op) o e fun b e=>AN A ops gs os (slot+slotsOf C o.op) ((st.app o e).addLit b o) (tr ++ [e]) Q
def dO (A:FuncId->Ask->oV->Prop) (L:Code->St->(bq->ST->Prop)->Prop):Code->ST->(bq->ST->Prop)->Prop
 | .skip,st,Q=>Q .normal st
 | .ret,st,Q=>Q .ret st
 | .exit id,st,Q=>Q (.exit id) st
 | .seq x y,st,Q=>dO A L x st fun e s=>match e with
  | .normal=>dO A L y s Q
  | .exit id=>Q (.exit id) s
  | .ret=>Q .ret s
 | .region _ ops draw,st,Q=>AN Z C A ops.toList (oE ops.toList ops.toList []) ops.toList st.heap.length (st.ext (bG C ops.toList)) [] fun aV tE=>match draw with
  | false=>Q .normal tE
  | true=>match AL ops.toList aV with
   | true=>Q .normal tE
   | false=>False
 | .cond c x y,st,Q=>match(st.get c).bool? with
  | some b=>match yF st.lit c with
   | true=>match b with
    | true=>dO A L x st Q
    | false=>dO A L y st Q
   | false=>Br b (dO A L x st Q) (dO A L y st Q)
  | none=>False
 | .block id c,st,Q=>dO A L c st fun e s=>match e with
  | .normal=>Q .normal s
  | .exit Ef=>if Ef=id then Q .normal s else Q (.exit Ef) s
  | .ret=>Q .ret s
 | .loop c,st,Q=>match st.fO with
  | ⟨t,h⟩=>L c ⟨t,h⟩ Q
 | _,_,_=>False
end
def jk:Code->Bool
 | .seq x y=>jk x&&jk y
 | .region _ ops draw=>!draw||E0 ops.toList
 | .cond _ x y=>jk x&&jk y
 | .block _ c=>jk c
 | .loop c=>jk c
 | _=>true
section
variable {P:Program} {C:eA} {h:Hp} {n0:Nat}
theorem AO {x:AV} {o:List Bool} {v:TV} {m:List (Nat×Option aA)} (e:IW ZI.cJ h x=some (o,v,m)) (ho:fJ o):wy h x=some (v,m):=by
 unfold IW at e;unfold wy;split at e
 ·split at e
  ·rename_i h1;cases e;simp only[uN h1 ho,Option.map_some]
  ·cases e
 ·split at e
  ·rename_i h1;cases e;simp only[jo h1 ho,Option.map_some]
  ·cases e
 ·cases e
theorem Df {md:Mode} {x:AV} {o:List Bool} {a:Arg} {m:List (Nat×Option aA)} {b:bK} (e:xe ZI.cJ h md x=some (o,a,m,b)) (ho:fJ o):eG h md x=some (a,m,b):=by
 unfold xe at e;split at e
 ·cases e;rfl
 ·rename_i dh
  split at e
  ·rename_i h1;cases e;rw[uL dh,AO h1 ho];rfl
  ·cases e
 ·split at e
  ·rename_i hb
   cases e;have:=jj ho;simp only[ZI.cJ,decide_eq_true_eq]at this;simp only[eG,hb];rw[if_pos this];rfl
  ·cases e
 ·split at e
  ·rename_i hb
   split at e
   ·rename_i dY
    cases e;have:=jj ho;simp only[ZI.cJ,decide_eq_true_eq]at this;simp only[eG,hb];rw[if_pos ⟨dY,this⟩]
   ·cases e
  ·cases e
 ·cases e;rfl
 ·split at e
  ·rename_i hb
   cases e;have:=jj ho;simp only[ZI.cJ,decide_eq_true_eq]at this;simp only[eG,hb];rw[if_pos this];rfl
  ·cases e
 ·rename_i dh
  split at e
  ·rename_i h1;cases e;rw[wR dh,AO h1 ho];rfl
  ·cases e
 ·split at e
  ·rename_i hb
   split at e
   ·rename_i ht
    cases e;simp only[eG,hb,ht]
   ·cases e
  ·cases e
 ·cases e
theorem iL:∀ {ms:List Mode} {xs:List AV} {o:List Bool} {as:List Arg} {m:List (Nat×Option aA)} {bs:List bK},kV ZI.cJ h ms xs=some (o,as,m,bs)->fJ o->da h ms xs=some (as,m,bs)
 | [],[],o,as,m,bs,e,ho=>by cases e;rfl
 | md::ms,x::xs,o,as,m,bs,e,ho=>by
  unfold kV at e;split at e
  ·rename_i h1 h2
   cases e;obtain⟨a,b⟩:=fU ho;simp only[da,Df h1 a,iL h2 b]
  ·cases e
 | [],_::_,o,as,m,bs,e,ho=>by cases e
 | _::_,[],o,as,m,bs,e,ho=>by cases e
theorem yG {ms:List Mode} {xs:List AV} {o:List Bool} {as:List Arg} {m:List (Nat×Option aA)} {bs:List bK} (e:tL ZI.cJ h ms xs=some (o,as,m,bs)) (ho:fJ o):eW h ms xs=some (as,m,bs):=by
 unfold tL at e;split at e
 ·cases e
 rename_i o1 as0 ks bs0 h1;split at e
 ·rename_i hg
  cases e;unfold eW;simp only[iL h1 ho,hg]
 ·rename_i g gs hg
  split at e
  ·rename_i As h2
   cases e;unfold eW;simp only[iL h1 ho,hg,h2]
  ·cases e
theorem iY:∀ {bs:List bK} {os:List (Option aA)} {o:List Bool} {w:List (Nat×Option aA)},iK ZI.cJ h bs os=some (o,w)->fJ o->dB h bs os=some w
 | [],[],o,w,e,ho=>by cases e;rfl
 | .none::bs,x::os,o,w,e,ho=>by
  simp only[iK]at e;simp only[dB];exact iY e ho
 | .own b::bs,x::os,o,w,e,ho=>by
  simp only[iK]at e;obtain⟨p,h1,h2⟩:=Option.map_eq_some_iff.1 e;cases h2;simp only[dB,iY (o:=p.1) (w:=p.2) h1 ho,Option.map_some]
 | .fu b off len::bs,some (.rows sz r false false)::os,o,w,e,ho=>by
  simp only[iK]at e;split at e
  ·rename_i hb
   split at e
   ·rename_i dY
    obtain⟨p,h1,h2⟩:=Option.map_eq_some_iff.1 e;cases h2;have q1:=ho _ (List.mem_cons_self ..);simp only[ZI.cJ,decide_eq_true_eq]at q1;simp only[dB,hb];rw[if_pos ⟨dY,q1⟩,iY (o:=p.1) (w:=p.2) h1 fun c hc=>ho c (List.mem_cons_of_mem _ hc)];rfl
   ·cases e
  ·cases e
 | .ref b::bs,some (.var cs)::os,o,w,e,ho=>by
  simp only[iK]at e;split at e
  ·rename_i hb
   split at e
   ·rename_i dY
    obtain⟨p,h1,h2⟩:=Option.map_eq_some_iff.1 e;cases h2;simp only[dB,hb];rw[if_pos dY,iY (o:=p.1) (w:=p.2) h1 ho];rfl
   ·cases e
  ·cases e
 | [],_::_,o,w,e,ho=>by cases e
 | .none::_,[],o,w,e,ho=>by cases e
 | .own _::_,[],o,w,e,ho=>by cases e
 | .fu _ _ _::_,[],o,w,e,ho=>by cases e
 | .ref _::_,[],o,w,e,ho=>by cases e
 | .fu _ _ _::_,none::_,o,w,e,ho=>by cases e
 | .ref _::_,none::_,o,w,e,ho=>by cases e
 | .fu _ _ _::_,some (.var _)::_,o,w,e,ho=>by cases e
 | .fu _ _ _::_,some (.map _)::_,o,w,e,ho=>by cases e
 | .fu _ _ _::_,some (.rows _ _ true _)::_,o,w,e,ho=>by cases e
 | .fu _ _ _::_,some (.rows _ _ false true)::_,o,w,e,ho=>by cases e
 | .ref _::_,some (.rows _ _ _ _)::_,o,w,e,ho=>by cases e
 | .ref _::_,some (.map _)::_,o,w,e,ho=>by cases e
theorem nL:∀(slot:Nat) (l:List RC),oC ZI.cJ slot l=ek slot l
 | _,[]=>rfl
 | slot,.val x::rs=>by simp only[oC,ek,nL slot rs]
 | slot,.own sz rows::rs=>by simp only[oC,ek,nL (slot+1) rs];rfl
theorem Dg {slot:Nat} {marks:List (Nat×Option aA)} {dV:List bK} {res:ko} {o:List Bool} {e:cR} (he:xf ZI.cJ h slot marks dV res=some (o,e)) (ho:fJ o):gO h slot marks dV res=some e:=by
 unfold xf at he;unfold gO;rw[nL]at he;simp only at he ⊢;split at he
 ·rename_i hc;cases he;rw[if_pos hc]
 ·rename_i hc
  rw[if_neg hc];split at he
  ·cases he
  ·rename_i hd
   rw[if_neg hd];split at he
   ·rename_i o1 bw h1
    cases he;simp only[iY h1 ho]
   ·cases he
theorem Fg {st:ST} (h:st.ok) (ops:List Oper) (o:Oper):Dd st ops o=iJ st.fO.tmps ops o:=by
 unfold Dd iJ;cases hg:o.guard with
 | none=>rfl
 | some p=>
  obtain⟨j,want⟩:=p;simp only;cases hd:(ops[j]?).bind (·.dst) with
  | none=>rfl
  | some d=>
   simp only;rw[ST.getD st h];rfl
theorem Pk {st:ST} (h:st.ok):st.fO.get=st.get:=by funext x;exact ST.get_eq st h x
theorem Hw {ops:List Oper} {slot:Nat} {o:Oper} {st:ST} (dR:st.ok) {k:cR->Prop} (hk:De ZI.cJ C (kP P) ops slot o st k):fF P C ops slot o st.fO k:=by
 unfold De at hk;unfold fF;rw[Fg dR]at hk;rw[Pk dR,ST.oD];cases hw:iJ st.fO.tmps ops o with
 | none=>simp only[hw]at hk
 | some b=>
 cases b with
 | false=>simp only[hw]at hk ⊢;exact hk
 | true=>
 simp only[hw]at hk ⊢;split at hk
 ·rename_i f args argTypes eQ
  simp only[eQ];split at hk
  ·exact hk.elim
  ·rename_i sX bL hc
   simp only[hc];split at hk
   ·rename_i n0 Ye Ol
    simp only[Ol];split at hk
    ·exact hk.elim
    ·rename_i ids s hp
     simp only[hp];obtain⟨s',h2,h3⟩:=hk;rw[eQ]at h3;exact⟨s',h2,h3⟩
   ·rename_i Mq
    split at hk
    ·exact hk.elim
    ·rename_i ob as marks dV hp
     obtain⟨h1,res,h2,h3⟩:=Om hk;simp only[yG hp h1];refine⟨res,h2,?_⟩;split at h3
     ·rename_i Uk e he
      obtain⟨h4,h5⟩:=Om h3;simp only[Dg he h4];exact h5
     ·exact h3.elim
 ·rename_i args argTypes eQ
  simp only[eQ];split at hk
  ·rename_i s x dM
   split at hk
   ·split at hk
    ·rename_i ob e he
     obtain⟨h4,h5⟩:=Om hk;simp only[nK he h4];exact h5
    ·exact hk.elim
   ·split at hk
    ·rename_i o1 new oR ob e hr hs he
     by_cases hz:ZI.cJ.neq (ZI.cJ.len new) 0=true
     ·obtain⟨h4,h5⟩:=Om (hk.t hz)
      have vx:=QZ hr h4;have hz':new.length=0:=by simpa[ZI.cJ]using hz
      have Yg:evalOp C slot st.get (look st.heap) (.call { callee:=.builtin .append,args,argTypes })=some { val:=st.get s,rd:=oR }:=by
       simp only[ma,dM]at he;simp only[evalOp,dM];cases ht:argTypes[0]? with
       | none=>rw[ht]at he;simp at he
       | some t=>
       simp only[ht]at he ⊢;split at he
       ·rename_i ti cZ
        split at he
        ·rename_i el hk
         split at he
         ·rename_i te t1 dx yt
          split at he
          ·rename_i OC CL
           split at he
           ·rename_i e1 GF
            split at he
            ·cases he
            ·rename_i hz
             simp only[cZ,hk,dx,yt,CL,GF];rw[if_neg hz];simp only[cN,vx];rw[if_pos hz',if_pos hs]
           ·cases he
          ·cases he
         ·cases he
        ·cases he
       ·cases he
      simp only[Yg];exact h5
     ·have GG:=hk.f (by simpa using hz)
      split at GG
      ·rename_i oc c eg VT e2 hap
       obtain⟨te,yt,Vf⟩:=Option.bind_eq_some_iff.1 hap;obtain⟨h4,h5⟩:=Om GG;obtain⟨g1,g2⟩:=Hu (x:=st.get x) Vf hr h4;have Yg:∀e',cN te slot (look st.heap) (st.get s) (st.get x)=some e'->evalOp C slot st.get (look st.heap) (.call { callee:=.builtin .append,args,argTypes })=some e':=by
        intro e' hh;simp only[ma,dM]at he;simp only[evalOp,dM];simp only[MF]at yt;cases ht:argTypes[0]? with
        | none=>rw[ht]at he;simp at he
        | some t=>
        simp only[ht]at he yt ⊢;split at he
        ·rename_i ti cZ
         simp only[cZ]at yt ⊢;split at he
         ·rename_i el hk
          simp only[hk]at yt ⊢;split at he
          ·rename_i te2 t1 dx R6
           have:te2=te:=Option.some.inj (dx.symm.trans yt);subst this;split at he
           ·rename_i OC CL
            split at he
            ·rename_i e1 GF
             split at he
             ·cases he
             ·rename_i hz
              simp only[dx,R6,CL,GF];rw[if_neg hz];exact hh
            ·cases he
           ·cases he
          ·cases he
         ·cases he
        ·cases he
       cases c with
       | true=>simp only[Yg _ (g1 rfl)];exact h5.t rfl
       | false=>
        obtain⟨h6,h7⟩:=Om (h5.f rfl);simp only[Yg _ (g2 rfl h6)];exact h7
      ·obtain⟨h4,h5⟩:=Om GG
       simp only[nK he h4];exact h5
    ·exact hk.elim
  ·exact hk.elim
 ·rename_i Q0 Ka
  split at hk
  ·rename_i ob e he
   obtain⟨h4,h5⟩:=Om hk;have OM:=nK he h4;split
   ·rename_i eQ
    exact absurd eQ (Q0 _ _ _)
   ·simp only[OM];exact h5
  ·exact hk.elim
theorem Hx {gs:List Nat} {lit:Bool} {o:Oper} {e:cR} {k:Bool->cR->Prop} (h:tO gs lit o e k):∃b,k b e:=by
 have key:∀b,e.val.bool?=some b->Br b (k true { e with val:=ep (.bool true) }) (k true { e with val:=ep (.bool false) })->k true e:=by
  intro b hb h;have hv:e.val=ep (.bool b):=by
   cases hv:e.val with
   | c x=>cases x with
    | t t=>cases t with
     | v x=>cases x<;>simp[hv,AV.bool?]at hb;subst hb;rfl
     | aa=>simp[hv,AV.bool?]at hb
    | _=>simp[hv,AV.bool?]at hb
   | _=>simp[hv,AV.bool?]at hb
  have he:e={ e with val:=ep (.bool b) }:=by rw[<-hv]
  rw[he];cases b with
  | true=>exact h.t rfl
  | false=>exact h.f rfl
 unfold tO at h;split at h
 ·exact⟨_,h⟩
 ·split at h
  ·exact⟨_,h⟩
  ·split at h
   ·split at h
    ·exact⟨_,h⟩
    ·split at h
     ·rename_i b hb;exact⟨_,key b hb h⟩
     ·exact⟨_,h⟩
   ·exact⟨_,h⟩
theorem ST.Fh (st:ST) (b:Bool) (o:Oper):(st.addLit b o).fO=st.fO:=by
 unfold ST.addLit;split
 ·rfl
 ·split
  ·rfl
  ·split<;>rfl
theorem ST.Kb {st:ST} (h:st.ok) (b:Bool) (o:Oper):(st.addLit b o).ok:=by
 unfold ST.addLit;split
 ·exact h
 ·split
  ·exact h
  ·split<;>exact h
def MH (Q:bq->ST->Prop):bq->St->Prop:=fun e s=>∃s',s'.ok/\s'.fO=s/\Q e s'
theorem AP {ops:List Oper} {gs:List Nat}:∀(os:List Oper) (slot:Nat) (st:ST) (tr:List cR) {k:List cR->ST->Prop},st.ok->AN ZI.cJ C (kP P) ops gs os slot st tr k->wJ P C ops os slot st.fO tr fun t s=>∃s',s'.ok/\s'.fO=s/\k t s'
 | [],slot,st,tr,k,dR,hk=>⟨st,dR,rfl,hk⟩
 | o::os,slot,st,tr,k,dR,hk=>wX (Hw dR hk) fun e he=>by
  obtain⟨b,hb⟩:=Hx he;rw[<-ST.MG dR,<-ST.Fh _ b o];exact AP os _ _ _ (ST.Kb (ST.SA dR o e) b o) hb
theorem Q1:∀(c:Code) (st:St) {Q Q':bq->St->Prop},fG P C n0 c st Q->(∀e s,Q e s->Q' e s)->fG P C n0 c st Q':=by
 intro c
 induction c with
 | skip=>intro st Q Q' h hq;exact hq _ _ h
 | ret=>intro st Q Q' h hq;exact hq _ _ h
 | exit id=>intro st Q Q' h hq;exact hq _ _ h
 | seq x y E5 E6=>
  intro st Q Q' h hq;refine E5 st h fun e s hs=>?_
  cases e with
  | normal=>exact E6 s hs hq
  | exit id=>exact hq _ _ hs
  | ret=>exact hq _ _ hs
 | region id ops draw=>
  intro st Q Q' h hq;refine oA _ _ _ _ h fun t s hs=>?_
  cases draw with
  | false=>exact hq _ _ hs
  | true=>
   simp only at hs ⊢;split at hs
   ·exact hq _ _ hs
   ·exact hs.elim
 | cond c x y E5 E6=>
  intro st Q Q' h hq;simp only[fG]at h ⊢;split at h
  ·exact E5 st h hq
  ·exact E6 st h hq
  ·exact h.elim
 | block id c ih=>
  intro st Q Q' h hq;refine ih st h fun e s hs=>?_
  cases e with
  | normal=>exact hq _ _ hs
  | exit Ef=>
   simp only at hs ⊢;split at hs
   ·rename_i he;rw[if_pos he];exact hq _ _ hs
   ·rename_i he;rw[if_neg he];exact hq _ _ hs
  | ret=>exact hq _ _ hs
 | loop c ih=>intro st Q Q' h hq;exact dN.mono h hq
 | _=>intros;rename_i h _;exact False.elim h
def Fi (P:Program) (n0:Nat) (c:Code) (st:St) (Q:bq->ST->Prop):Prop:=jk c=true->rK P n0 c st (MH Q)
theorem gA:∀(c:Code) (st:ST) {Q:bq->ST->Prop},st.ok->jk c=true->dO ZI.cJ C (kP P) (Fi P n0) c st Q->fG P C n0 c st.fO (MH Q):=by
 intro c
 induction c with
 | skip=>intro st Q dR hT h;exact⟨st,dR,rfl,h⟩
 | ret=>intro st Q dR hT h;exact⟨st,dR,rfl,h⟩
 | exit id=>intro st Q dR hT h;exact⟨st,dR,rfl,h⟩
 | seq x y E5 E6=>
  intro st Q dR hT h;simp only[jk,Bool.and_eq_true]at hT;refine Q1 x _ (E5 st dR hT.1 h) fun e s hs=>?_
  obtain⟨s',h1,rfl,h2⟩:=hs;cases e with
  | normal=>exact E6 s' h1 hT.2 h2
  | exit id=>exact⟨s',h1,rfl,h2⟩
  | ret=>exact⟨s',h1,rfl,h2⟩
 | region id ops draw=>
  intro st Q dR hT h;refine oA _ _ _ _ (AP _ _ _ _ (show(st.ext _).ok from dR) h) fun t s hs=>?_
  obtain⟨s',h1,rfl,hs⟩:=hs;cases draw with
  | false=>exact⟨s',h1,rfl,hs⟩
  | true=>
   simp only[jk,Bool.not_true,Bool.false_or]at hT;simp only at hs ⊢;split at hs
   ·rename_i hd;rw[hT,hd];exact⟨s',h1,rfl,hs⟩
   ·exact hs.elim
 | cond c x y E5 E6=>
  intro st Q dR hT h;simp only[jk,Bool.and_eq_true]at hT;simp only[dO]at h;simp only[fG];rw[ST.get_eq st dR];split at h
  ·rename_i b hb
   rw[hb];split at h
   ·cases b with
    | true=>exact E5 st dR hT.1 h
    | false=>exact E6 st dR hT.2 h
   ·cases b with
    | true=>exact E5 st dR hT.1 (h.t rfl)
    | false=>exact E6 st dR hT.2 (h.f rfl)
  ·exact h.elim
 | block id c ih=>
  intro st Q dR hT h;refine Q1 c _ (ih st dR hT h) fun e s hs=>?_
  obtain⟨s',h1,rfl,hs⟩:=hs;cases e with
  | normal=>exact⟨s',h1,rfl,hs⟩
  | exit Ef=>
   simp only at hs ⊢;split at hs
   ·rename_i he;rw[if_pos he];exact⟨s',h1,rfl,hs⟩
   ·rename_i he;rw[if_neg he];exact⟨s',h1,rfl,hs⟩
  | ret=>exact⟨s',h1,rfl,hs⟩
 | loop c ih=>
  intro st Q dR hT h;exact h hT
 | _=>intros;rename_i h;exact False.elim h
end
inductive aY:Tree->Tree->Prop where
 | v (x:Value):aY (.v x) (.v x)
 | aa (cp GD:Bool) (rows dy:Rows) (f:Nat->Nat->Tree):(GD=true->cp=true)->rows.length=dy.length->(∀(n:Nat),(∀r∈rows,r.length=n)->∀r∈dy,r.length=n) ->
   (∀i j t',fo dy i j=some t'->fo rows i j=some (f i j))->(∀i j t',fo dy i j=some t'->aY (f i j) t')->aY (.aa cp rows) (.aa GD dy)
theorem aY.flag {cp GD:Bool} (rows:Rows) (yq:GD=true->cp=true) (hr:∀i j t,fo rows i j=some t->aY t t):aY (.aa cp rows) (.aa GD rows):=
 .aa cp GD rows rows (fun i j=>(fo rows i j).getD (.v undef)) yq rfl (fun n h=>h) (fun i j t ht=>by rw[ht];rfl) fun i j t ht=>by rw[ht];exact hr i j t ht
theorem aY.rfl':∀(n:Nat) (t:Tree),SizeOf.sizeOf t<n->aY t t
 | 0,t,h=>by omega
 | n+1,.v x,h=>.v x
 | n+1,.aa cp rows,h=>.flag rows (fun x=>x) fun i j t ht=>by
  unfold fo at ht;obtain⟨r,h1,h2⟩:=Option.bind_eq_some_iff.1 ht;have a:=List.sizeOf_lt_of_mem (List.mem_of_getElem? h1);have b:=List.sizeOf_lt_of_mem (List.mem_of_getElem? h2);have:=Tree.aa.sizeOf_spec cp rows;exact aY.rfl' n t (by omega)
theorem aY.refl (t:Tree):aY t t:=aY.rfl' _ t (Nat.lt_succ_self _)
theorem aY.drop (cp:Bool) (rows:Rows):aY (.aa cp rows) (.aa false rows):=.flag rows (fun h=>by cases h) fun _ _ t _=>.refl t
theorem dX.Fj {S:Place} {w:World} {t t':Tree} {v:Value} (hl:aY t t'):dX S w t v->dX S w t' v:=by
 induction hl generalizing v with
 | v x=>intro h;exact h
 | aa cp GD rows dy f h1 h2 IH h3 _ ih=>
  intro h;cases h with
  | aa _ _ base cb co ah cap val q1 q2 q3 q4 q5 q6 q7 q8 q9=>
   rw[h2];refine .aa GD dy base cb co ah cap val (by omega) q2 (by omega) (fun hc=>by rw[<-h2];exact q4 (h1 hc)) (fun hn=>q5 fun h0=>hn ?_) q6 (IH _ q7) (fun i j t' ht=>q8 i j _ (h3 i j t' ht)) fun i j t' ht=>ih i j t' ht (q9 i j _ (h3 i j t' ht))
   rw[h0]at h2;exact List.length_eq_zero_iff.1 h2.symm
def ku:List Tree->List Tree->Prop
 | [],[]=>True
 | x::xs,y::ys=>aY x y/\ku xs ys
 | _,_=>False
theorem ku.get:∀ {l l':List Tree},ku l l'->l.length=l'.length/\∀(i:Nat) (t':Tree),l'[i]?=some t'->∃t,l[i]?=some t/\aY t t'
 | [],[],_=>⟨rfl,by simp⟩
 | x::xs,y::ys,h=>by
  obtain⟨h1,h2⟩:=h;obtain⟨h3,h4⟩:=ku.get h2;refine⟨by simp[h3],fun i t' hi=>?_⟩;cases i with
  | zero=>simp at hi;subst hi;exact⟨x,rfl,h1⟩
  | succ i=>obtain⟨t,q1,q2⟩:=h4 i t' (by simpa using hi);exact⟨t,by simpa using q1,q2⟩
 | [],_::_,h=>h.elim
 | _::_,[],h=>h.elim
theorem ku.refl:∀(l:List Tree),ku l l
 | []=>trivial
 | x::xs=>⟨.refl x,ku.refl xs⟩
def jq:TV->TV->Prop
 | .c t,.c t'=>aY t t'
 | .agg l,.agg l'=>ku l l'
 | _,_=>False
theorem jq.refl:∀(x:TV),jq x x
 | .c t=>aY.refl t
 | .agg l=>ku.refl l
theorem jq.rep {β:Nat->Option bZ} {S:Place} {w:World}:∀ {x y:TV} {v:Value},jq x y->aI β S w x.av v->aI β S w y.av v
 | .c t,.c t',v,h,hv=>by
  cases hv with|c hv=>
  cases hv with|t hv=>
  exact .c (.t (hv.Fj h))
 | .agg l,.agg l',v,h,hv=>by
  obtain⟨h1,h2⟩:=ku.get h;cases hv with|agg vs q1 q2=>
  refine .agg vs (by simpa[h1]using q1) fun i c hi=>?_
  rw[List.getElem?_map]at hi;obtain⟨t',e1,rfl⟩:=Option.map_eq_some_iff.1 hi;obtain⟨t,e2,e3⟩:=h2 i t' e1;obtain⟨u,e4,e5⟩:=q2 i (.t t) (by rw[List.getElem?_map,e2];rfl);cases e5 with|t e5=>
  exact⟨u,e4,.t (e5.Fj e3)⟩
 | .c _,.agg _,v,h,hv=>h.elim
 | .agg _,.c _,v,h,hv=>h.elim
def IY:Arg->Arg->Prop
 | .val x,.val y=>jq x y
 | a,b=>a=b
theorem IY.ao:∀ {a b:Arg},IY a b->a.ao=b.ao
 | .val x,.val y,_=>rfl
 | .val x,.fu _ _,h=>by cases h
 | .val x,.own _ _,h=>by cases h
 | .val x,.ref _,h=>by cases h
 | .fu _ _,b,h=>by cases h;rfl
 | .own _ _,b,h=>by cases h;rfl
 | .ref _,b,h=>by cases h;rfl
 | .val x,.dA _ _,h=>by cases h
 | .val x,.gh _,h=>by cases h
 | .dA _ _,b,h=>by cases h;rfl
 | .gh _,b,h=>by cases h;rfl
def eo:List Arg->List Arg->Prop
 | [],[]=>True
 | x::xs,y::ys=>IY x y/\eo xs ys
 | _,_=>False
theorem eo.get:∀ {l l':List Arg},eo l l'->l.length=l'.length/\∀(i:Nat) (t':Arg),l'[i]?=some t'->∃t,l[i]?=some t/\IY t t'
 | [],[],_=>⟨rfl,by simp⟩
 | x::xs,y::ys,h=>by
  obtain⟨h1,h2⟩:=h;obtain⟨h3,h4⟩:=eo.get h2;refine⟨by simp[h3],fun i t' hi=>?_⟩;cases i with
  | zero=>simp at hi;subst hi;exact⟨x,rfl,h1⟩
  | succ i=>obtain⟨t,q1,q2⟩:=h4 i t' (by simpa using hi);exact⟨t,by simpa using q1,q2⟩
 | [],_::_,h=>h.elim
 | _::_,[],h=>h.elim
theorem eo.ao {l l':List Arg} (h:eo l l') (i:Nat):(l[i]?).bind Arg.ao=(l'[i]?).bind Arg.ao:=by
 obtain⟨h1,h2⟩:=h.get;cases hi:l'[i]? with
 | none=>rw[List.getElem?_eq_none (by rw[h1];exact List.getElem?_eq_none_iff.1 hi)]
 | some t'=>
  obtain⟨t,e1,e2⟩:=h2 i t' hi;rw[e1];exact e2.ao
theorem eo.JX {l l':List Arg} (h:eo l l') (Rs:Nat->bZ):nq l Rs=nq l' Rs:=by
 have key:∀(a b:List Arg),(∀i:Nat,(a[i]?).bind Arg.ao=(b[i]?).bind Arg.ao)->∀c o,nq a Rs c o->nq b Rs c o:=by
  intro a b GA c o ⟨i,arg,ao,h1,h2,h3⟩;have:(b[i]?).bind Arg.ao=some ao:=by rw[<-GA i,h1];exact h2
  obtain⟨aau,q1,q2⟩:=Option.bind_eq_some_iff.1 this;exact⟨i,aau,ao,q1,q2,h3⟩
 funext c o;exact propext ⟨key l l' h.ao c o,key l' l (fun i=>(h.ao i).symm) c o⟩
theorem eo.refl:∀(l:List Arg),eo l l
 | []=>trivial
 | .val x::xs=>⟨jq.refl x,eo.refl xs⟩
 | .fu _ _::xs=>⟨rfl,eo.refl xs⟩
 | .own _ _::xs=>⟨rfl,eo.refl xs⟩
 | .ref _::xs=>⟨rfl,eo.refl xs⟩
 | .dA _ _::xs=>⟨rfl,eo.refl xs⟩
 | .gh _::xs=>⟨rfl,eo.refl xs⟩
theorem eo.nv:∀ {l l':List Arg},eo l l'->kM l=kM l'
 | [],[],_=>rfl
 | x::xs,y::ys,h=>by
  obtain⟨h1,h2⟩:=h;have ih:=eo.nv h2;cases x with
  | val x=>
   cases y with
   | val y=>simp[kM,ih]
   | _=>cases h1
  | gh ts=>cases h1;rfl
  | _=>cases h1;simp[kM,ih]
 | [],_::_,h=>h.elim
 | _::_,[],h=>h.elim
theorem eo.βA {l l':List Arg} (h:eo l l') (Rs:Nat->bZ):Abs.βA l Rs=Abs.βA l' Rs:=by
 funext i;unfold Abs.βA;rw[h.ao i]
def Pl:RC->RC->Prop
 | .val x,.val y=>jq x y
 | a,b=>a=b
def pA:List RC->List RC->Prop
 | [],[]=>True
 | x::xs,y::ys=>Pl x y/\pA xs ys
 | _,_=>False
theorem pA.get:∀ {l l':List RC},pA l l'->l.length=l'.length/\∀(i:Nat) (t':RC),l'[i]?=some t'->∃t,l[i]?=some t/\Pl t t'
 | [],[],_=>⟨rfl,by simp⟩
 | x::xs,y::ys,h=>by
  obtain⟨h1,h2⟩:=h;obtain⟨h3,h4⟩:=pA.get h2;refine⟨by simp[h3],fun i t' hi=>?_⟩;cases i with
  | zero=>simp at hi;subst hi;exact⟨x,rfl,h1⟩
  | succ i=>obtain⟨t,q1,q2⟩:=h4 i t' (by simpa using hi);exact⟨t,by simpa using q1,q2⟩
 | [],_::_,h=>h.elim
 | _::_,[],h=>h.elim
theorem pA.refl:∀(l:List RC),pA l l
 | []=>trivial
 | .val x::xs=>⟨jq.refl x,pA.refl xs⟩
 | .own _ _::xs=>⟨rfl,pA.refl xs⟩
def fV (r r':ko):Prop:=pA r.aW r'.aW/\r.out=r'.out
theorem fV.refl (r:ko):fV r r:=⟨pA.refl _,rfl⟩
theorem Pl.own {x:RC} {sz:Nat} {rows:Rows} (h:Pl x (.own sz rows)):x=.own sz rows:=by
 cases x with
 | val=>cases h
 | own=>exact h
theorem fR.Fj {args:List Arg} {res Kc:ko} {S:Place} {w w':World} {Rs:Nat->bZ} {v:Value} (hr:fV res Kc) (hq:fR args res S w Rs v w'):fR args Kc S w Rs v w':=by
 obtain⟨S',Rr,vs,q1,q2,q3,q4,q5,q6,q7,q8,q9⟩:=hq.p;obtain⟨rl,rg⟩:=hr.1.get;have CS:∀(k sz:Nat) (rows:Rows),Kc.aW[k]?=some (.own sz rows)->res.aW[k]?=some (.own sz rows):=by
  intro k sz rows hk;obtain⟨t,e1,e2⟩:=rg k _ hk;rw[e1,e2.own]
 refine⟨S',Rr,vs,by rw[q1,rl],q2,q3,q4,q5,fun k r hk=>?_,fun k sz rows hk=>q7 k sz rows (CS _ _ _ hk),fun k l sz lA rows dy dh hk hl=>q8 k l sz lA rows dy dh (CS _ _ _ hk) (CS _ _ _ hl),fun i ao hi=>?_⟩
 ·obtain⟨t,e1,e2⟩:=rg k r hk
  obtain⟨u,e3,e4⟩:=q6 k t e1;refine⟨u,e3,?_⟩;cases r with
  | own sz rows=>rw[e2.own]at e4;exact e4
  | val y=>
   cases t with
   | own=>cases e2
   | val x=>exact jq.rep e2 e4
 ·obtain⟨arg,b0,e1,e2,e3,e4,e5,e6⟩:=q9 i ao (by rw[hr.2];exact hi)
  exact⟨arg,b0,e1,e2,e3,e4,e5,fun k sz rows hk=>e6 k sz rows (CS _ _ _ hk)⟩
theorem eP.Fj {P:Program} {f:FuncId} {args xh:List Arg} {res Kc:ko} (ha:eo args xh) (hr:fV res Kc) (h:eP P f xh res):eP P f args Kc:=by
 refine⟨h.1,fun S w aW Rs hp=>?_⟩;obtain⟨al,ag⟩:=ha.get;have hex:∀(i:Nat) (arg:Arg) (ao:aA),xh[i]?=some arg->arg.ao=some ao->∃VW,args[i]?=some VW/\VW.ao=some ao:=by
  intro i arg ao h1 h2;obtain⟨t,e1,e2⟩:=ag i arg h1;exact⟨t,e1,by rw[e2.ao];exact h2⟩
 have hp':ox xh S w aW Rs:=by
  refine⟨by rw[hp.len,al],fun i arg hi=>?_,hp.sT,fun i arg ao h1 h2=>?_,fun i j x y b b' dh h1 h2 h3 h4=>?_,fun i f aN v hi hv=>?_⟩
  ·obtain⟨t,e1,e2⟩:=ag i arg hi
   obtain⟨v,e3,e4⟩:=hp.ok i t e1;refine⟨v,e3,?_⟩;cases t with
   | val x=>
    cases arg with
    | val y=>exact jq.rep e2 e4
    | _=>cases e2
   | _=>cases e2;exact e4
  ·obtain⟨a0,e1,e2⟩:=hex i arg ao h1 h2
   exact hp.ext i a0 ao e1 e2
  ·obtain⟨a0,e1,e2⟩:=hex i x b h1 h3
   obtain⟨a1,e3,e4⟩:=hex j y b' h2 h4;exact hp.mK i j a0 a1 b b' dh e1 e3 e2 e4
  ·obtain⟨t,e1,e2⟩:=ag i _ hi
   rw[<-ha.βA Rs];cases t with
   | dA f' aco=>cases e2;exact hp.dA i _ _ v e1 hv
   | _=>cases e2
 rw[ha.nv];refine(h.2 S w aW Rs hp').mono ?_
 rintro e w' ⟨v,rfl,hq⟩
 refine⟨v,rfl,?_⟩;have VX:fR args res S w Rs v w':=by
  obtain⟨S',Rr,vs,q1,q2,q3,q4,q5,q6,q7,q8,q9⟩:=hq.p;rw[<-ha.JX Rs]at q3 q5 q7;refine⟨S',Rr,vs,q1,q2,q3,q4,q5,q6,q7,q8,fun i ao hi=>?_⟩;obtain⟨arg,b0,e1,e2,e3⟩:=q9 i ao hi;obtain⟨a0,e7,e8⟩:=hex i arg b0 e1 e2;exact⟨a0,b0,e7,e8,e3⟩
 exact VX.Fj hr
theorem eP.MI {P:Program} {C:eA} (hC:bC P C) {f:FuncId} {fn:Func} {c:Code} {args:List Arg} {res:ko} {om:List Mode} (jx:P.funcs[f]?=some fn) (fg:(fn.name == "runtime.NumGoroutine")=false) (dD:fn.body=some c)
  (di:dN P args.length c (gd args fn.ntmps) fun e s=>(e=.normal∨e=.ret)/\∃r,fV r res/\finish C s args fn.results.toList om=some r):eP P f args res:=by
 refine⟨⟨fn,jx,by rw[dD];rfl,fg⟩,fun S w aW Rs hp=>(px hC (R:=fun r=>fV r res) (om:=om) jx dD di S w aW Rs hp).mono ?_⟩
 rintro e w' ⟨v,r,h1,h2,h3⟩
 exact⟨v,h1,h3.Fj h2⟩
def W (k:IntKind) (l:List Int):Rows:=l.map fun x=>[.v (.int k x)]
structure Std (P:Program) (n0:Nat) (zD:IntKind->Int->Int) (zE:Int->Int->Int) (zG:Int->Int->Int) (zH:Int->Int->Int) (zI:Int->Int->Int) (zJ:Int->Int->Int) (zK:IntKind->Int->Int->Int) (zM:IntKind->Int->Int->Int) (zN:IntKind->Int->Int->Int) (zO:IntKind->Int->Int->Int) (zR:IntKind->Int->Int->Int) (zS:IntKind->Int->Int->Int) (zT:Int->Int->Bool) (zU:Int->Int->Bool) (zV:Int->Int->Bool) (zX:Int->Int->Bool) (zY:Bool->Bool) (zZ:Bool->Bool->Bool) (zg:Bool->Bool->Bool) (zh:Int->Int->Int) (zj:Int->Int->Int) (zu:Int->Nat) (zy:Int->Nat->Bool) (zz:Nat->Int) (bg:Nat->Int->Nat) (ay:Nat->Nat->Bool) (aK:Nat->Nat->Nat) (bO:Int->Int->Nat) (bI:Int->Int->Nat->Bool) (aQ:Nat->Nat->Nat->Bool) (aT:Int->Int->Nat->Bool) (ab:Rows->Nat) (aB:Rows->Nat->Option (List Tree)) (bA:Rows->Nat->List Tree->Rows) (aL:IntKind->Rows->Nat->Bool) (ar:Rows->Nat->Int) (aR:IntKind->Rows->Nat->Int->Rows) (a9:Nat->Nat->Rows->Bool) (aD:Rows->Nat->Nat->Rows) (bV:Rows->Nat->Rows->Rows) (bB:Rows->Nat->Rows->Rows) (bR:Nat->List Tree->Rows) (aM:Nat->Rows->Bool) (db:List Bool->Bool) (dc:List (Value×Tree)->Value->Bool) (bn:List (Value×Tree)->Value->Bool) (a8:List (Value×Tree)->Value->Tree->List (Value×Tree)) (bY:Rows->Option ByteArray) (aX:List (Value×Tree)->Value->Option (Option Tree)) (zW:IntKind->List Int->Rows) (kW:(α:Type)->(Unit->α)->α) (A:FuncId->Ask->oV->Prop) (L:Code->St->(bq->ST->Prop)->Prop):Prop where
 wrap:∀(a:IntKind) (b:Int),zD a b=a.wrap b
 add:∀(a:Int) (b:Int),zE a b=a+b
 sub:∀(a:Int) (b:Int),zG a b=a-b
 mul:∀(a:Int) (b:Int),zH a b=a*b
 quo:∀(a:Int) (b:Int),zI a b=a.tdiv b
 rem:∀(a:Int) (b:Int),zJ a b=a.tmod b
 shl:∀(a:IntKind) (b:Int) (c:Int),zK a b c=a.wrap (b*2^(Min.min c.toNat a.bits))
 shr:∀(a:IntKind) (b:Int) (c:Int),zM a b c=b.fdiv (2^(Min.min c.toNat a.bits))
 kQ:∀(a:IntKind) (b:Int) (c:Int),zN a b c=a.wrap ((BitVec.ofInt a.bits b &&& BitVec.ofInt a.bits c).toNat)
 fu:∀(a:IntKind) (b:Int) (c:Int),zO a b c=a.wrap ((BitVec.ofInt a.bits b ||| BitVec.ofInt a.bits c).toNat)
 MD:∀(a:IntKind) (b:Int) (c:Int),zR a b c=a.wrap ((BitVec.ofInt a.bits b ^^^ BitVec.ofInt a.bits c).toNat)
 E8:∀(a:IntKind) (b:Int) (c:Int),zS a b c=a.wrap ((BitVec.ofInt a.bits b &&& ~~~ BitVec.ofInt a.bits c).toNat)
 eq:∀(a:Int) (b:Int),zT a b=decide (a=b)
 ne:∀(a:Int) (b:Int),zU a b=decide (a≠b)
 lt:∀(a:Int) (b:Int),zV a b=decide (a<b)
 le:∀(a:Int) (b:Int),zX a b=decide (a<=b)
 not:∀(a:Bool),zY a=!a
 beq:∀(a:Bool) (b:Bool),zZ a b=(a==b)
 bne:∀(a:Bool) (b:Bool),zg a b=!(a==b)
 max:∀(a:Int) (b:Int),zh a b=if b>a then b else a
 min:∀(a:Int) (b:Int),zj a b=if b<a then b else a
 nat:∀(a:Int),zu a=a.toNat
 yC:∀(a:Int) (b:Nat),zy a b=decide (0<=a/\a<b)
 az:∀(a:Nat),zz a=(a:Int)
 idx:∀(a:Nat) (b:Int),bg a b=a+b.toNat
 neq:∀(a:Nat) (b:Nat),ay a b=decide (a=b)
 fN:∀(a:Nat) (b:Nat),aK a b=a+b
 J7:∀(a:Int) (b:Int),bO a b=a.toNat-b.toNat
 cut:∀(a:Int) (b:Int) (c:Nat),bI a b c=decide (0<=a/\a<=b/\b<=c)
 room:∀(a:Nat) (b:Nat) (c:Nat),aQ a b c=decide ((a+b)*c<=au)
 nG:∀(a:Int) (b:Int) (c:Nat),aT a b c=decide (0<=a/\a<=b/\b*c<=au)
 len:∀(a:Rows),ab a=a.length
 nth:∀(a:Rows) (b:Nat),aB a b=a[b]?
 E9:∀(a:Rows) (b:Nat) (c:List Tree),bA a b c=a.set b c
 gM:∀(a:IntKind) (b:Rows) (c:Nat),aL a b c=ZI.cJ.gM a b c
 dK:∀(a:Rows) (b:Nat),ar a b=ZI.cJ.dK a b
 oW:∀(a:IntKind) (b:Rows) (c:Nat) (d:Int),aR a b c d=b.set c [.v (.int a d)]
 fit:∀(a:Nat) (b:Nat) (c:Rows),a9 a b c=decide (a+b<=c.length)
 part:∀(a:Rows) (b:Nat) (c:Nat),aD a b c=(a.drop b).take c
 ext:∀(a:Rows) (b:Nat) (c:Rows),bV a b c=a.drop b++c
 yD:∀(a:Rows) (b:Nat) (c:Rows),bB a b c=aZ a b c
 rep:∀(a:Nat) (b:List Tree),bR a b=List.replicate a b
 wide:∀(a:Nat) (b:Rows),aM a b=b.all fun r=>r.length==a
 all:∀(a:List Bool),db a=a.all id
 Pg:∀(a:List (Value×Tree)) (b:Value),dc a b=ZI.cJ.Pg a b
 Fb:∀(a:List (Value×Tree)) (b:Value),bn a b=ZI.cJ.Fb a b
 J8:∀(a:List (Value×Tree)) (b:Value) (c:Tree),a8 a b c=(gk b c a).getD a
 str:∀(a:Rows),bY a=ZI.cJ.str a
 find:∀(a:List (Value×Tree)) (b:Value),aX a b=df b a
 W:zW=W
 th:∀(α:Type) (f:Unit->α),kW α f=f ()
 a:A=kP P
 l:L=Fi P n0
section
variable {P:Program} {C:eA} {n0:Nat} {zD:IntKind->Int->Int} {zE zG zH zI zJ:Int->Int->Int} {zK zM zN zO zR zS:IntKind->Int->Int->Int} {zT zU zV zX:Int->Int->Bool} {zY:Bool->Bool} {zZ zg:Bool->Bool->Bool} {zh zj:Int->Int->Int} {zu:Int->Nat} {zy:Int->Nat->Bool} {zz:Nat->Int} {bg:Nat->Int->Nat} {ay:Nat->Nat->Bool} {aK:Nat->Nat->Nat} {bO:Int->Int->Nat} {bI:Int->Int->Nat->Bool} {aQ:Nat->Nat->Nat->Bool} {aT:Int->Int->Nat->Bool} {ab:Rows->Nat} {aB:Rows->Nat->Option (List Tree)} {bA:Rows->Nat->List Tree->Rows} {aL:IntKind->Rows->Nat->Bool} {ar:Rows->Nat->Int} {aR:IntKind->Rows->Nat->Int->Rows} {a9:Nat->Nat->Rows->Bool} {aD:Rows->Nat->Nat->Rows} {bV bB:Rows->Nat->Rows->Rows} {bR:Nat->List Tree->Rows} {aM:Nat->Rows->Bool} {db:List Bool->Bool} {dc bn:List (Value×Tree)->Value->Bool} {a8:List (Value×Tree)->Value->Tree->List (Value×Tree)} {bY:Rows->Option ByteArray} {aX:List (Value×Tree)->Value->Option (Option Tree)} {zW:IntKind->List Int->Rows} {kW:(α:Type)->(Unit->α)->α} {A:FuncId->Ask->oV->Prop} {L:Code->St->(bq->ST->Prop)->Prop}
theorem Std.z (h:Std P n0 zD zE zG zH zI zJ zK zM zN zO zR zS zT zU zV zX zY zZ zg zh zj zu zy zz bg ay aK bO bI aQ aT ab aB bA aL ar aR a9 aD bV bB bR aM db dc bn a8 bY aX zW kW A L):ZI.mk zD zE zG zH zI zJ zK zM zN zO zR zS zT zU zV zX zY zZ zg zh zj zu zy zz bg ay aK bO bI aQ aT ab aB bA aL ar aR a9 aD bV bB bR aM db dc bn a8 bY aX=ZI.cJ:=by
 obtain rfl:zD=(fun(a:IntKind) (b:Int)=>a.wrap b):=by funext a b;exact h.wrap ..
 obtain rfl:zE=(fun(a:Int) (b:Int)=>a+b):=by funext a b;exact h.add ..
 obtain rfl:zG=(fun(a:Int) (b:Int)=>a-b):=by funext a b;exact h.sub ..
 obtain rfl:zH=(fun(a:Int) (b:Int)=>a*b):=by funext a b;exact h.mul ..
 obtain rfl:zI=(fun(a:Int) (b:Int)=>a.tdiv b):=by funext a b;exact h.quo ..
 obtain rfl:zJ=(fun(a:Int) (b:Int)=>a.tmod b):=by funext a b;exact h.rem ..
 obtain rfl:zK=(fun(a:IntKind) (b:Int) (c:Int)=>a.wrap (b*2^(Min.min c.toNat a.bits))):=by funext a b c;exact h.shl ..
 obtain rfl:zM=(fun(a:IntKind) (b:Int) (c:Int)=>b.fdiv (2^(Min.min c.toNat a.bits))):=by funext a b c;exact h.shr ..
 obtain rfl:zN=(fun(a:IntKind) (b:Int) (c:Int)=>a.wrap ((BitVec.ofInt a.bits b &&& BitVec.ofInt a.bits c).toNat)):=by funext a b c;exact h.kQ ..
 obtain rfl:zO=(fun(a:IntKind) (b:Int) (c:Int)=>a.wrap ((BitVec.ofInt a.bits b ||| BitVec.ofInt a.bits c).toNat)):=by funext a b c;exact h.fu ..
 obtain rfl:zR=(fun(a:IntKind) (b:Int) (c:Int)=>a.wrap ((BitVec.ofInt a.bits b ^^^ BitVec.ofInt a.bits c).toNat)):=by funext a b c;exact h.MD ..
 obtain rfl:zS=(fun(a:IntKind) (b:Int) (c:Int)=>a.wrap ((BitVec.ofInt a.bits b &&& ~~~ BitVec.ofInt a.bits c).toNat)):=by funext a b c;exact h.E8 ..
 obtain rfl:zT=(fun(a:Int) (b:Int)=>decide (a=b)):=by funext a b;exact h.eq ..
 obtain rfl:zU=(fun(a:Int) (b:Int)=>decide (a≠b)):=by funext a b;exact h.ne ..
 obtain rfl:zV=(fun(a:Int) (b:Int)=>decide (a<b)):=by funext a b;exact h.lt ..
 obtain rfl:zX=(fun(a:Int) (b:Int)=>decide (a<=b)):=by funext a b;exact h.le ..
 obtain rfl:zY=(fun(a:Bool)=>!a):=by funext a;exact h.not ..
 obtain rfl:zZ=(fun(a:Bool) (b:Bool)=>(a==b)):=by funext a b;exact h.beq ..
 obtain rfl:zg=(fun(a:Bool) (b:Bool)=>!(a==b)):=by funext a b;exact h.bne ..
 obtain rfl:zh=(fun(a:Int) (b:Int)=>if b>a then b else a):=by funext a b;exact h.max ..
 obtain rfl:zj=(fun(a:Int) (b:Int)=>if b<a then b else a):=by funext a b;exact h.min ..
 obtain rfl:zu=(fun(a:Int)=>a.toNat):=by funext a;exact h.nat ..
 obtain rfl:zy=(fun(a:Int) (b:Nat)=>decide (0<=a/\a<b)):=by funext a b;exact h.yC ..
 obtain rfl:zz=(fun(a:Nat)=>(a:Int)):=by funext a;exact h.az ..
 obtain rfl:bg=(fun(a:Nat) (b:Int)=>a+b.toNat):=by funext a b;exact h.idx ..
 obtain rfl:ay=(fun(a:Nat) (b:Nat)=>decide (a=b)):=by funext a b;exact h.neq ..
 obtain rfl:aK=(fun(a:Nat) (b:Nat)=>a+b):=by funext a b;exact h.fN ..
 obtain rfl:bO=(fun(a:Int) (b:Int)=>a.toNat-b.toNat):=by funext a b;exact h.J7 ..
 obtain rfl:bI=(fun(a:Int) (b:Int) (c:Nat)=>decide (0<=a/\a<=b/\b<=c)):=by funext a b c;exact h.cut ..
 obtain rfl:aQ=(fun(a:Nat) (b:Nat) (c:Nat)=>decide ((a+b)*c<=au)):=by funext a b c;exact h.room ..
 obtain rfl:aT=(fun(a:Int) (b:Int) (c:Nat)=>decide (0<=a/\a<=b/\b*c<=au)):=by funext a b c;exact h.nG ..
 obtain rfl:ab=(fun(a:Rows)=>a.length):=by funext a;exact h.len ..
 obtain rfl:aB=(fun(a:Rows) (b:Nat)=>a[b]?):=by funext a b;exact h.nth ..
 obtain rfl:bA=(fun(a:Rows) (b:Nat) (c:List Tree)=>a.set b c):=by funext a b c;exact h.E9 ..
 obtain rfl:aL=(fun(a:IntKind) (b:Rows) (c:Nat)=>ZI.cJ.gM a b c):=by funext a b c;exact h.gM ..
 obtain rfl:ar=(fun(a:Rows) (b:Nat)=>ZI.cJ.dK a b):=by funext a b;exact h.dK ..
 obtain rfl:aR=(fun(a:IntKind) (b:Rows) (c:Nat) (d:Int)=>b.set c [.v (.int a d)]):=by funext a b c d;exact h.oW ..
 obtain rfl:a9=(fun(a:Nat) (b:Nat) (c:Rows)=>decide (a+b<=c.length)):=by funext a b c;exact h.fit ..
 obtain rfl:aD=(fun(a:Rows) (b:Nat) (c:Nat)=>(a.drop b).take c):=by funext a b c;exact h.part ..
 obtain rfl:bV=(fun(a:Rows) (b:Nat) (c:Rows)=>a.drop b++c):=by funext a b c;exact h.ext ..
 obtain rfl:bB=(fun(a:Rows) (b:Nat) (c:Rows)=>aZ a b c):=by funext a b c;exact h.yD ..
 obtain rfl:bR=(fun(a:Nat) (b:List Tree)=>List.replicate a b):=by funext a b;exact h.rep ..
 obtain rfl:aM=(fun(a:Nat) (b:Rows)=>b.all fun r=>r.length==a):=by funext a b;exact h.wide ..
 obtain rfl:db=(fun(a:List Bool)=>a.all id):=by funext a;exact h.all ..
 obtain rfl:dc=(fun(a:List (Value×Tree)) (b:Value)=>ZI.cJ.Pg a b):=by funext a b;exact h.Pg ..
 obtain rfl:bn=(fun(a:List (Value×Tree)) (b:Value)=>ZI.cJ.Fb a b):=by funext a b;exact h.Fb ..
 obtain rfl:a8=(fun(a:List (Value×Tree)) (b:Value) (c:Tree)=>(gk b c a).getD a):=by funext a b c;exact h.J8 ..
 obtain rfl:bY=(fun(a:Rows)=>ZI.cJ.str a):=by funext a;exact h.str ..
 obtain rfl:aX=(fun(a:List (Value×Tree)) (b:Value)=>df b a):=by funext a b;exact h.find ..
 rfl
theorem Std.call (h:Std P n0 zD zE zG zH zI zJ zK zM zN zO zR zS zT zU zV zX zY zZ zg zh zj zu zy zz bg ay aK bO bI aQ aT ab aB bA aL ar aR a9 aD bV bB bR aM db dc bn a8 bY aX zW kW A L) {f:FuncId} {args:List Arg} {res:ko} (hc:eP P f args res):A f (.a args) (.a res):=by rw[h.a];exact hc
theorem Std.Q2 (h:Std P n0 zD zE zG zH zI zJ zK zM zN zO zR zS zT zU zV zX zY zZ zg zh zj zu zy zz bg ay aK bO bI aQ aT ab aB bA aL ar aR a9 aD bV bB bR aM db dc bn a8 bY aX zW kW A L) {f:FuncId} {args xh:List Arg} {res:ko} (hc:eP P f xh res) (ha:eo args xh):A f (.a args) (.a res):=by rw[h.a];exact hc.Fj ha (fV.refl _)
def gf (Z:ZI):Nat->List Arg->List AV
 | _,[]=>[]
 | i,.val x::as=>x.av::gf Z (i+1) as
 | i,.fu _ rows::as=>.c (.sl i 0 (Z.len rows) false)::gf Z (i+1) as
 | i,.own _ rows::as=>.c (.sl i 0 (Z.len rows) false)::gf Z (i+1) as
 | i,.ref _::as=>.c (.ptr i 0 0)::gf Z (i+1) as
 | i,.dA f aN::as=>.c (.dA f aN)::gf Z (i+1) as
 | _,.gh _::_=>[]
def kX (Z:ZI) (args:List Arg) (ntmps:Nat):St:=⟨gf Z 0 args++List.replicate (ntmps-kM args) .af,args.map Arg.ao⟩
theorem gJ:∀(i:Nat) (l:List Arg),gf ZI.cJ i l=dC i l
 | _,[]=>rfl
 | i,.val x::as=>by simp only[gf,dC,gJ (i+1) as]
 | i,.fu _ rows::as=>by simp only[gf,dC,gJ (i+1) as];rfl
 | i,.own _ rows::as=>by simp only[gf,dC,gJ (i+1) as];rfl
 | i,.ref _::as=>by simp only[gf,dC,gJ (i+1) as]
 | i,.dA _ _::as=>by simp only[gf,dC,gJ (i+1) as]
 | _,.gh _::_=>rfl
theorem Dh (l:List Arg) (n:Nat):kX ZI.cJ l n=gd l n:=by unfold kX gd;rw[gJ]
def Hy (Z:ZI) (h:Hp) (i:Nat):Arg->OZ (Option aA)
 | .fu sz rows=>match h i with
  | some (.rows lA r false false)=>if lA=sz then some ([Z.neq (Z.len r) (Z.len rows)],some (.rows sz r false false)) else none
  | _=>none
 | .ref cells=>match h i with
  | some (.var cs)=>match bS h cs with
   | some (_,[])=>if cs.length=cells.length then some ([],some (.var cs)) else none
   | _=>none
  | _=>none
 | .gh cells=>match h i with
  | some (.var cs)=>match bS h cs with
   | some (_,[])=>if cs.length=cells.length then some ([],some (.var cs)) else none
   | _=>none
  | _=>none
 | _=>some ([],none)
def vK (Z:ZI) (h:Hp):Nat->List Arg->OZ (List (Option aA))
 | _,[]=>some ([],[])
 | i,a::as=>match Hy Z h i a,vK Z h (i+1) as with
  | some (o,x),some (os,xs)=>some (o++os,x::xs)
  | _,_=>none
def qx (C:eA) (st:ST):ResultVar->Option AV
 | .tmp t=>some (st.get (.tmp t))
 | .cell a t=>match C.ty t,st.get (.tmp a) with
  | some ti,.c (.ptr b 0 c)=>match look st.heap b with
   | some (.var cells)=>dn ti cells c
   | _=>none
  | _,_=>none
theorem xi {C:eA} {st:ST} (h:st.ok) (r:ResultVar):qx C st r=gH C st.fO r:=by
 cases r with
 | tmp t=>simp only[qx,gH,<-ST.get_eq st h];rfl
 | cell a t=>simp only[qx,gH,<-ST.get_eq st h,ST.oD];rfl
def yH (Z:ZI) (C:eA) (st:ST) (args:List Arg) (Lz:List ResultVar) (om:List Mode) (F:ko->Prop):Prop:=
 match Lz.mapM (qx C st) with
 | none=>False
 | some bL=>
  match kV Z (look st.heap) om bL with
  | none=>False
  | some (ob,as,marks,dV)=>
   match dV.filterMap bK.id with
   | is=>
   if decide is.Nodup&&is.all (fun i=>!(ids marks).contains i)&&is.all (fun i=>match args[i]? with|some a=>!a.JX|none=>true) then
    match as.mapM Arg.rc,vK Z (look (eR st.heap marks)) 0 args with
    | some JY,some (Uk,outs)=>nH (ob++Uk) (F ⟨JY,outs⟩)
    | _,_=>False
   else False
theorem Hz {h:Hp} {i:Nat} {x:Arg} {o:List Bool} {b:Option aA} (e:Hy ZI.cJ h i x=some (o,b)) (ho:fJ o):pq h i x=some b:=by
 unfold Hy at e;unfold pq;split at e
 ·split at e
  ·rename_i hb
   split at e
   ·rename_i dY
    cases e;have:=jj ho;simp only[ZI.cJ,decide_eq_true_eq]at this;simp only[hb];rw[if_pos ⟨dY,this⟩]
   ·cases e
  ·cases e
 ·split at e
  ·rename_i hb
   simp only[hb];split at e
   ·rename_i ht
    split at e
    ·rename_i dY
     cases e;simp only[ht];rw[if_pos dY]
    ·cases e
   ·cases e
  ·cases e
 ·split at e
  ·rename_i hb
   simp only[hb];split at e
   ·rename_i ht
    split at e
    ·rename_i dY
     cases e;simp only[ht];rw[if_pos dY]
    ·cases e
   ·cases e
  ·cases e
 ·rename_i n1 n2 n3
  cases e;split
  ·rename_i sz rows;exact absurd rfl (n1 _ _)
  ·rename_i cells;exact absurd rfl (n2 _)
  ·rename_i cells;exact absurd rfl (n3 _)
  ·rfl
theorem uP {h:Hp}:∀ {i:Nat} {l:List Arg} {o:List Bool} {b:List (Option aA)},vK ZI.cJ h i l=some (o,b)->fJ o->qh h i l=some b
 | i,[],o,b,e,ho=>by cases e;rfl
 | i,a::as,o,b,e,ho=>by
  unfold vK at e;split at e
  ·rename_i h1 h2
   cases e;obtain⟨p,q⟩:=fU ho;simp only[qh,Hz h1 p,uP h2 q]
  ·cases e
theorem Fk {st:ST} (dR:st.ok) {args:List Arg} {Lz:List ResultVar} {om:List Mode} {F:ko->Prop} (h:yH ZI.cJ C st args Lz om F):∃r,F r/\finish C st.fO args Lz om=some r:=by
 unfold yH at h;unfold finish;unfold rv;rw[show qx C st=gH C st.fO from funext fun r=>xi dR r]at h;rw[ST.oD];split at h
 ·exact h.elim
 ·rename_i bL Hn
  split at h
  ·exact h.elim
  ·rename_i ob as marks dV hp
   simp only at h;split at h
   ·rename_i hc
    split at h
    ·rename_i JY Uk outs h1 h2
     obtain⟨h3,h4⟩:=Om h;obtain⟨a,b⟩:=fU h3;refine⟨_,h4,?_⟩;simp only[Hn,iL hp a];refine(if_pos hc).trans ?_;simp only[h1,uP h2 b]
    ·exact h.elim
   ·exact h.elim
theorem fW (hC:bC P C) (eY:P.follows .mixedOrders=true) (hS:Std P n0 zD zE zG zH zI zJ zK zM zN zO zR zS zT zU zV zX zY zZ zg zh zj zu zy zz bg ay aK bO bI aQ aT ab aB bA aL ar aR a9 aD bV bB bR aM db dc bn a8 bY aX zW kW A L) {c:Code} {st:St} {Q:bq->ST->Prop} (I:Nat->St->Prop) {n:Nat} {s0:St} (hl:st.Le s0) (hb:s0.aO=true) (hk:n0<=s0.heap.length) (h0:I n s0)
  (round:∀n s,I n s->dO (ZI.mk zD zE zG zH zI zJ zK zM zN zO zR zS zT zU zV zX zY zZ zg zh zj zu zy zz bg ay aK bO bI aQ aT ab aB bA aL ar aR a9 aD bV bB bR aM db dc bn a8 bY aX) C A L c (ST.mb s) fun e s=>match e with
   | .normal=>match s.fO with
    | ⟨t,h⟩=>∃s',(St.mk t h).Le s'/\s'.aO=true/\n0<=s'.heap.length/\∃m,m<n/\I m s'
   | .exit id=>Q (.exit id) s
   | .ret=>Q .ret s):L c st Q:=by
 rw[hS.z,hS.a,hS.l]at round;rw[hS.l];refine fun hT=>rK.intro hC eY I hl hb hk h0 fun n s hI=>?_
 have:=gA c _ (ST.mc s) hT (round n s hI);rw[ST.iw]at this;refine Q1 c s this fun e s1 h1=>?_
 obtain⟨s',ho,rfl,h2⟩:=h1;cases e with
 | normal=>exact h2
 | exit id=>exact⟨s',ho,rfl,h2⟩
 | ret=>exact⟨s',ho,rfl,h2⟩
theorem an (hC:bC P C) (eY:P.follows .mixedOrders=true) {f:FuncId} {fn:Func} {c:Code} {args:List Arg} {res:ko} (om:List Mode) (jx:P.funcs[f]?=some fn) (fg:(fn.name == "runtime.NumGoroutine")=false) (dD:fn.body=some c) (hT:jk c=true)
  (h:∀(zD:IntKind->Int->Int) (zE zG zH zI zJ:Int->Int->Int) (zK zM zN zO zR zS:IntKind->Int->Int->Int) (zT zU zV zX:Int->Int->Bool) (zY:Bool->Bool) (zZ zg:Bool->Bool->Bool) (zh zj:Int->Int->Int) (zu:Int->Nat) (zy:Int->Nat->Bool) (zz:Nat->Int) (bg:Nat->Int->Nat) (ay:Nat->Nat->Bool) (aK:Nat->Nat->Nat) (bO:Int->Int->Nat) (bI:Int->Int->Nat->Bool) (aQ:Nat->Nat->Nat->Bool) (aT:Int->Int->Nat->Bool) (ab:Rows->Nat) (aB:Rows->Nat->Option (List Tree)) (bA:Rows->Nat->List Tree->Rows) (aL:IntKind->Rows->Nat->Bool) (ar:Rows->Nat->Int) (aR:IntKind->Rows->Nat->Int->Rows) (a9:Nat->Nat->Rows->Bool) (aD:Rows->Nat->Nat->Rows) (bV bB:Rows->Nat->Rows->Rows) (bR:Nat->List Tree->Rows) (aM:Nat->Rows->Bool) (db:List Bool->Bool) (dc bn:List (Value×Tree)->Value->Bool) (a8:List (Value×Tree)->Value->Tree->List (Value×Tree)) (bY:Rows->Option ByteArray) (aX:List (Value×Tree)->Value->Option (Option Tree)) (zW:IntKind->List Int->Rows) (kW:(α:Type)->(Unit->α)->α) A L (F:ko->Prop),Std P args.length zD zE zG zH zI zJ zK zM zN zO zR zS zT zU zV zX zY zZ zg zh zj zu zy zz bg ay aK bO bI aQ aT ab aB bA aL ar aR a9 aD bV bB bR aM db dc bn a8 bY aX zW kW A L->(∀r,fV r res->F r)->dO (ZI.mk zD zE zG zH zI zJ zK zM zN zO zR zS zT zU zV zX zY zZ zg zh zj zu zy zz bg ay aK bO bI aQ aT ab aB bA aL ar aR a9 aD bV bB bR aM db dc bn a8 bY aX) C A L c (ST.mb (kX (ZI.mk zD zE zG zH zI zJ zK zM zN zO zR zS zT zU zV zX zY zZ zg zh zj zu zy zz bg ay aK bO bI aQ aT ab aB bA aL ar aR a9 aD bV bB bR aM db dc bn a8 bY aX) args fn.ntmps)) fun e s=>match e with
   | .exit _=>False
   | .normal=>yH (ZI.mk zD zE zG zH zI zJ zK zM zN zO zR zS zT zU zV zX zY zZ zg zh zj zu zy zz bg ay aK bO bI aQ aT ab aB bA aL ar aR a9 aD bV bB bR aM db dc bn a8 bY aX) C s args fn.results.toList om F
   | .ret=>yH (ZI.mk zD zE zG zH zI zJ zK zM zN zO zR zS zT zU zV zX zY zZ zg zh zj zu zy zz bg ay aK bO bI aQ aT ab aB bA aL ar aR a9 aD bV bB bR aM db dc bn a8 bY aX) C s args fn.results.toList om F):eP P f args res:=by
 have key:=h (fun(a:IntKind) (b:Int)=>a.wrap b) (fun(a:Int) (b:Int)=>a+b) (fun(a:Int) (b:Int)=>a-b) (fun(a:Int) (b:Int)=>a*b) (fun(a:Int) (b:Int)=>a.tdiv b) (fun(a:Int) (b:Int)=>a.tmod b) (fun(a:IntKind) (b:Int) (c:Int)=>a.wrap (b*2^(Min.min c.toNat a.bits))) (fun(a:IntKind) (b:Int) (c:Int)=>b.fdiv (2^(Min.min c.toNat a.bits))) (fun(a:IntKind) (b:Int) (c:Int)=>a.wrap ((BitVec.ofInt a.bits b &&& BitVec.ofInt a.bits c).toNat)) (fun(a:IntKind) (b:Int) (c:Int)=>a.wrap ((BitVec.ofInt a.bits b ||| BitVec.ofInt a.bits c).toNat)) (fun(a:IntKind) (b:Int) (c:Int)=>a.wrap ((BitVec.ofInt a.bits b ^^^ BitVec.ofInt a.bits c).toNat)) (fun(a:IntKind) (b:Int) (c:Int)=>a.wrap ((BitVec.ofInt a.bits b &&& ~~~ BitVec.ofInt a.bits c).toNat)) (fun(a:Int) (b:Int)=>decide (a=b)) (fun(a:Int) (b:Int)=>decide (a≠b)) (fun(a:Int) (b:Int)=>decide (a<b)) (fun(a:Int) (b:Int)=>decide (a<=b)) (fun(a:Bool)=>!a) (fun(a:Bool) (b:Bool)=>(a==b)) (fun(a:Bool) (b:Bool)=>!(a==b)) (fun(a:Int) (b:Int)=>if b>a then b else a) (fun(a:Int) (b:Int)=>if b<a then b else a) (fun(a:Int)=>a.toNat) (fun(a:Int) (b:Nat)=>decide (0<=a/\a<b)) (fun(a:Nat)=>(a:Int)) (fun(a:Nat) (b:Int)=>a+b.toNat) (fun(a:Nat) (b:Nat)=>decide (a=b)) (fun(a:Nat) (b:Nat)=>a+b) (fun(a:Int) (b:Int)=>a.toNat-b.toNat) (fun(a:Int) (b:Int) (c:Nat)=>decide (0<=a/\a<=b/\b<=c)) (fun(a:Nat) (b:Nat) (c:Nat)=>decide ((a+b)*c<=au)) (fun(a:Int) (b:Int) (c:Nat)=>decide (0<=a/\a<=b/\b*c<=au)) (fun(a:Rows)=>a.length) (fun(a:Rows) (b:Nat)=>a[b]?) (fun(a:Rows) (b:Nat) (c:List Tree)=>a.set b c) (fun(a:IntKind) (b:Rows) (c:Nat)=>ZI.cJ.gM a b c) (fun(a:Rows) (b:Nat)=>ZI.cJ.dK a b) (fun(a:IntKind) (b:Rows) (c:Nat) (d:Int)=>b.set c [.v (.int a d)]) (fun(a:Nat) (b:Nat) (c:Rows)=>decide (a+b<=c.length)) (fun(a:Rows) (b:Nat) (c:Nat)=>(a.drop b).take c) (fun(a:Rows) (b:Nat) (c:Rows)=>a.drop b++c) (fun(a:Rows) (b:Nat) (c:Rows)=>aZ a b c) (fun(a:Nat) (b:List Tree)=>List.replicate a b) (fun(a:Nat) (b:Rows)=>b.all fun r=>r.length==a) (fun(a:List Bool)=>a.all id) (fun(a:List (Value×Tree)) (b:Value)=>ZI.cJ.Pg a b) (fun(a:List (Value×Tree)) (b:Value)=>ZI.cJ.Fb a b) (fun(a:List (Value×Tree)) (b:Value) (c:Tree)=>(gk b c a).getD a) (fun(a:Rows)=>ZI.cJ.str a) (fun(a:List (Value×Tree)) (b:Value)=>df b a) W (fun(α:Type) (f:Unit->α)=>f ()) (kP P) (Fi P args.length) (fun r=>fV r res) ⟨fun _ _=>rfl,fun _ _=>rfl,fun _ _=>rfl,fun _ _=>rfl,fun _ _=>rfl,fun _ _=>rfl,fun _ _ _=>rfl,fun _ _ _=>rfl,fun _ _ _=>rfl,fun _ _ _=>rfl,fun _ _ _=>rfl,fun _ _ _=>rfl,fun _ _=>rfl,fun _ _=>rfl,fun _ _=>rfl,fun _ _=>rfl,fun _=>rfl,fun _ _=>rfl,fun _ _=>rfl,fun _ _=>rfl,fun _ _=>rfl,fun _=>rfl,fun _ _=>rfl,fun _=>rfl,fun _ _=>rfl,fun _ _=>rfl,fun _ _=>rfl,fun _ _=>rfl,fun _ _ _=>rfl,fun _ _ _=>rfl,fun _ _ _=>rfl,fun _=>rfl,fun _ _=>rfl,fun _ _ _=>rfl,fun _ _ _=>rfl,fun _ _=>rfl,fun _ _ _ _=>rfl,fun _ _ _=>rfl,fun _ _ _=>rfl,fun _ _ _=>rfl,fun _ _ _=>rfl,fun _ _=>rfl,fun _ _=>rfl,fun _=>rfl,fun _ _=>rfl,fun _ _=>rfl,fun _ _ _=>rfl,fun _=>rfl,fun _ _=>rfl,rfl,fun _ _=>rfl,rfl,rfl⟩ (fun r hr=>hr)
 have VY:fG P C args.length c (kX ZI.cJ args fn.ntmps) (MH fun e s=>match e with
   | .exit _=>False
   | .normal=>yH ZI.cJ C s args fn.results.toList om (fun r=>fV r res)
   | .ret=>yH ZI.cJ C s args fn.results.toList om (fun r=>fV r res)):=by
  have k0:=gA c _ (ST.mc _) hT key;rw[ST.iw]at k0;exact k0
 rw[Dh]at VY;have SB:=Q1 c _ VY (Q':=fun e s=>(e=.normal∨e=.ret)/\∃r,fV r res/\finish C s args fn.results.toList om=some r) fun e s hs=>by
  obtain⟨s',h1,rfl,hs⟩:=hs;cases e with
  | normal=>exact⟨.inl rfl,Fk h1 hs⟩
  | exit id=>exact hs.elim
  | ret=>exact⟨.inr rfl,Fk h1 hs⟩
 exact eP.MI hC jx fg dD (fG.run hC eY c _ _ SB)
end
theorem eS {x:Int} (h0:0<=x) (h1:x<2^64):IntKind.wrap .u64 x=x:=by
 have:IntKind.wrap .u64 x=x%2^64:=rfl;rw[this,Int.emod_eq_of_lt h0 h1]
end Go.Abs
end
