/- A part of the proof. -/
import Derived.Orders
import Derived.Test.YtekefilngojelaaGreatM6
import Derived.Test.YtekefilngojelaaGreatM7
set_option maxHeartbeats 0
set_option maxRecDepth 100000
set_option linter.unusedVariables false
set_option linter.unusedSimpArgs false
set_option linter.unusedSectionVars false
section
namespace Go.Abs
def wX (acc:List Nat):List Oper->List Nat
 | []=>acc
 | o::os=>wX (acc ++ [o.after.toList.foldl (fun s e=>if Region.binds .any e then s ||| (2^e.on ||| acc.getD e.on 0) else s) 0]) os
def pW (ops:List Oper) (x y:Oper) (ex ey:bW):Bool:=
 (match x.dst with|some d=>(mC ops y).contains d||y.dst==some d|none=>false) ||
 (match y.dst with|some d=>(mC ops x).contains d|none=>false) ||
 (ids ex.wr).any (fun b=>(ids ey.wr).contains b||ey.rd.contains b)||ex.rd.any fun b=>(ids ey.wr).contains b
def jy (ops:List Oper) (aS:List bW):Bool:=
 (List.range ops.length).all fun j=>(((ops.getD j default).after.toList.all fun e=>!Region.binds .any e||decide (e.on<j))) &&
  (List.range j).all fun i=>((wX [] ops).getD j 0).testBit i || !pW ops (ops.getD i default) (ops.getD j default) (aS.getD i {}) (aS.getD j {})
def dx (st:St) (ops:List Oper) (aS:List bW) (E:Nat->Bool):Nat->St
 | 0=>st
 | i+1=>if E i then(dx st ops aS E i).app (ops.getD i default) (aS.getD i {}) else dx st ops aS E i
section
variable {P:Program} {C:eh} {ops:List Oper} {aS:List bW} {st:St}
theorem tw (o:Oper) (os:List Oper) (e:bW) (es:List bW) (st:St):∀i,dx st (o::os) (e::es) (fun _=>true) (i+1)=dx (st.app o e) os es (fun _=>true) i
 | 0=>rfl
 | i+1=>by
  have:=tw o os e es st i;rw[dx,if_pos rfl,this];rfl
theorem E4:∀(os:List Oper) (slot:Nat) (st:St) (tr:List bW) (Q:List bW->St->Prop),wM P C ops os slot st tr Q ->
  ∃es:List bW,es.length=os.length/\(∀i,i<os.length->fw P C ops (slot+bB C (os.take i)) (os.getD i default) (dx st os es (fun _=>true) i) (·=es.getD i {}))/\Q (tr++es) (dx st os es (fun _=>true) os.length)
 | [],slot,st,tr,Q,h=>⟨[],rfl,by simp,by simpa[dx,wM]using h⟩
 | o::os,slot,st,tr,Q,h=>by
  obtain⟨e,h1,h2⟩:=MM h;obtain⟨es,h3,h4,h5⟩:=E4 os _ _ _ _ h2;refine⟨e::es,by simp[h3],fun i hi=>?_,?_⟩
  ·cases i with
   | zero=>simpa[bB,dx]using h1
   | succ i=>
    rw[tw];have:=h4 i (by simpa using hi);simpa[bB,Nat.add_assoc]using this
  ·rw[List.length_cons,tw]
   simpa using h5
theorem nk (st:St) (o:Oper) (e:bW) (t:Nat):(st.app o e).tmps[t]?=if o.dst=some t then(if t<st.tmps.length then some e.val else none) else st.tmps[t]?:=by
 unfold St.app;cases hd:o.dst with
 | none=>simp
 | some d=>
  simp only[List.getElem?_set,Option.some.injEq]
  by_cases h:d=t
  ·subst h;simp
  ·rw[if_neg h,if_neg h]
theorem MN (st:St) (o:Oper) (e:bW):(st.app o e).tmps.length=st.tmps.length:=by
 unfold St.app;cases o.dst<;>simp
theorem iL:∀(l:List (Nat×Option aC)) (h:bM) (b:Nat),b ∉ ids l->(eK h l)[b]?=h[b]?
 | [],_,_,_=>rfl
 | p::l,h,b,hn=>by
  simp only[ids,List.map_cons,List.mem_cons,not_or]at hn;rw[iJ,iL l _ b hn.2,List.getElem?_set,if_neg (fun e=>hn.1 e.symm)]
theorem pX:∀(l:List (Nat×Option aC)) (h h':bM) (b:Nat),h.length=h'.length->b∈ids l->(eK h l)[b]?=(eK h' l)[b]?
 | p::l,h,h',b,hl,hb=>by
  rw[iJ,iJ]
  by_cases Mw:b∈ids l
  ·exact pX l _ _ b (by simp[hl]) Mw
  ·rw[iL l _ b Mw,iL l _ b Mw]
   simp only[ids,List.map_cons,List.mem_cons]at hb;have:b=p.1:=hb.resolve_right Mw;subst this;rw[List.getElem?_set,List.getElem?_set,if_pos rfl,if_pos rfl,hl]
theorem fL (E:Nat->Bool):∀m,(dx st ops aS E m).tmps.length=st.tmps.length/\(dx st ops aS E m).heap.length=st.heap.length
 | 0=>⟨rfl,rfl⟩
 | m+1=>by
  obtain⟨h1,h2⟩:=fL E m;unfold dx;split
  ·exact⟨by rw[MN,h1],by rw[wO,h2]⟩
  ·exact⟨h1,h2⟩
theorem oo {E E':Nat->Bool} {t:Nat}:∀m,(∀i,i<m->(ops.getD i default).dst=some t->E i=E' i)->(dx st ops aS E m).tmps[t]?=(dx st ops aS E' m).tmps[t]?
 | 0,_=>rfl
 | m+1,h=>by
  have ih:=oo m fun i hi=>h i (by omega)
  unfold dx
  by_cases hd:(ops.getD m default).dst=some t
  ·rw[h m (by omega) hd]
   split
   ·rw[nk,nk,if_pos hd,if_pos hd,(fL E m).1,(fL E' m).1]
   ·exact ih
  ·have e1:∀(s:St),(s.app (ops.getD m default) (aS.getD m {})).tmps[t]?=s.tmps[t]?:=fun s=>by rw[nk,if_neg hd]
   split<;>split<;>(try simp only[e1])<;>exact ih
theorem oq {E E':Nat->Bool} {b:Nat}:∀m,(∀i,i<m->b∈ids (aS.getD i {}).wr->E i=E' i)->(dx st ops aS E m).heap[b]?=(dx st ops aS E' m).heap[b]?
 | 0,_=>rfl
 | m+1,h=>by
  have ih:=oq m fun i hi=>h i (by omega)
  unfold dx
  by_cases hd:b∈ids (aS.getD m {}).wr
  ·rw[h m (by omega) hd]
   split
   ·exact pX _ _ _ b (by rw[(fL E m).2,(fL E' m).2]) hd
   ·exact ih
  ·have e1:∀(s:St),(s.app (ops.getD m default) (aS.getD m {})).heap[b]?=s.heap[b]?:=fun s=>iL _ _ b hd
   split<;>split<;>(try simp only[e1])<;>exact ih
theorem nn (E:Nat->Bool) {i:Nat}:∀m,i<=m->dx st ops aS (fun k=>E k&&decide (k<i)) m=dx st ops aS E i
 | 0,h=>by
  have:i=0:=by omega
  subst this;rfl
 | m+1,h=>by
  rcases Nat.lt_or_ge m i with hm|hm
  ·have:i=m+1:=by omega
   subst this;have gen:∀k,k<=m+1->dx st ops aS (fun k=>E k&&decide (k<m+1)) k=dx st ops aS E k:=by
    intro k
    induction k with
    | zero=>intro _;rfl
    | succ k ih=>
     intro hk;unfold dx;rw[ih (by omega)];have:decide (k<m+1)=true:=by simp;omega
     simp only[this,Bool.and_true]
   exact gen _ (Nat.le_refl _)
  ·have e:dx st ops aS (fun k=>E k&&decide (k<i)) (m+1)=(if(E m&&decide (m<i))=true then(dx st ops aS (fun k=>E k&&decide (k<i)) m).app (ops.getD m default) (aS.getD m {}) else dx st ops aS (fun k=>E k&&decide (k<i)) m):=rfl
   have:decide (m<i)=false:=by simp;omega
   rw[e,this,Bool.and_false,if_neg (by simp)];exact nn E m hm
theorem wY {acc:List Nat} {i:Nat}:∀(l:List Edge) (s:Nat),(l.foldl (fun s e=>if Region.binds .any e then s ||| (2^e.on ||| acc.getD e.on 0) else s) s).testBit i=true ->
  s.testBit i=true∨∃e∈l,Region.binds .any e=true/\(e.on=i∨(acc.getD e.on 0).testBit i=true)
 | [],s,h=>.inl h
 | e::l,s,h=>by
  rw[List.foldl_cons]at h;rcases wY l _ h with h1|⟨e',h1,h2,h3⟩
  ·split at h1
   ·rename_i hb
    rw[Nat.testBit_or,Nat.testBit_or,Bool.or_eq_true,Bool.or_eq_true]at h1;rcases h1 with h1|h1|h1
    ·exact .inl h1
    ·rw[Nat.testBit_two_pow]at h1
     exact .inr ⟨e,by simp,hb,.inl (by simpa using h1)⟩
    ·exact .inr ⟨e,by simp,hb,.inr h1⟩
   ·exact .inl h1
  ·exact .inr ⟨e',by simp[h1],h2,h3⟩
theorem AH:∀(os pre:List Oper) (acc:List Nat),acc.length=pre.length ->
  (∀j,j<pre.length->∀i,(acc.getD j 0).testBit i=true->∃e∈(pre.getD j default).after.toList,Region.binds .any e=true/\(e.on=i∨(e.on<j/\(acc.getD e.on 0).testBit i=true))) ->
  ∀j,j<(pre++os).length->∀i,((wX acc os).getD j 0).testBit i=true->∃e∈((pre++os).getD j default).after.toList,Region.binds .any e=true/\(e.on=i∨(e.on<j/\((wX acc os).getD e.on 0).testBit i=true))
 | [],pre,acc,hl,h,j,hj,i,hb=>by simpa[wX]using h j (by simpa using hj) i hb
 | o::os,pre,acc,hl,h,j,hj,i,hb=>by
  have e1:pre++o::os=(pre ++ [o])++os:=by simp
  rw[e1]at hj ⊢;rw[wX]at hb ⊢;refine AH os (pre ++ [o]) _ (by simp[hl]) (fun j hj i hb=>?_) j hj i hb;rw[List.length_append,List.length_singleton]at hj;rcases Nat.lt_or_ge j pre.length with h1|h1
  ·rw[List.getD_eq_getElem?_getD,List.getElem?_append,if_pos (by omega),<-List.getD_eq_getElem?_getD]at hb
   obtain⟨e,q1,q2,q3⟩:=h j h1 i hb;refine⟨e,?_,q2,?_⟩
   ·rw[List.getD_eq_getElem?_getD,List.getElem?_append,if_pos h1,<-List.getD_eq_getElem?_getD];exact q1
   ·rcases q3 with q3|⟨q3,q4⟩
    ·exact .inl q3
    ·refine .inr ⟨q3,?_⟩
     rw[List.getD_eq_getElem?_getD,List.getElem?_append,if_pos (by omega),<-List.getD_eq_getElem?_getD];exact q4
  ·have hjj:j=pre.length:=by omega
   subst hjj;rw[List.getD_eq_getElem?_getD,List.getElem?_append,if_neg (by omega),hl,Nat.sub_self,List.getElem?_cons_zero,Option.getD_some]at hb;rcases wY _ _ hb with h2|⟨e,q1,q2,q3⟩
   ·simp at h2
   ·refine⟨e,?_,q2,?_⟩
    ·rw[List.getD_eq_getElem?_getD,List.getElem?_append,if_neg (by omega),Nat.sub_self,List.getElem?_cons_zero,Option.getD_some];exact q1
    ·rcases q3 with q3|q3
     ·exact .inl q3
     ·have bG:e.on<acc.length:=by
       rcases Nat.lt_or_ge e.on acc.length with h|h
       ·exact h
       ·rw[List.getD_eq_getElem?_getD,List.getElem?_eq_none h]at q3;simp at q3
      refine .inr ⟨by omega,?_⟩;rw[List.getD_eq_getElem?_getD,List.getElem?_append,if_pos bG,<-List.getD_eq_getElem?_getD];exact q3
def pY (ops:List Oper) (E:Nat->Bool):Prop:=∀j,j<ops.length->E j=true->∀e∈(ops.getD j default).after.toList,Region.binds .any e=true->E e.on=true
theorem pY.bef {E:Nat->Bool} (h:pY ops E):∀j,j<ops.length->E j=true->∀i,((wX [] ops).getD j 0).testBit i=true->E i=true:=by
 intro j
 induction j using Nat.strongRecOn with
 | _ j ih=>
  intro hj hE i hb;obtain⟨e,q1,q2,q3⟩:=AH ops [] [] rfl (by simp) j (by simpa using hj) i hb;have he:=h j hj hE e (by simpa using q1) q2;rcases q3 with rfl|⟨q3,q4⟩
  ·exact he
  ·exact ih e.on q3 (by omega) he i q4
end
section
variable {P:Program} {C:eh} {ops:List Oper} {aS:List bW} {st:St}
theorem Kp {E:Nat->Bool} {t m n:Nat} (Hf:m<=n) (h:∀k,m<=k->k<n->(ops.getD k default).dst=some t->E k=false):(dx st ops aS E n).tmps[t]?=(dx st ops aS E m).tmps[t]?:=by
 rw[<-nn E n Hf];refine oo n fun k hk hd=>?_
 rcases Nat.lt_or_ge k m with h1|h1
 ·simp[h1]
 ·rw[h k h1 hk hd];rfl
theorem Kq {E:Nat->Bool} {b m n:Nat} (Hf:m<=n) (h:∀k,m<=k->k<n->b∈ids (aS.getD k {}).wr->E k=false):(dx st ops aS E n).heap[b]?=(dx st ops aS E m).heap[b]?:=by
 rw[<-nn E n Hf];refine oq n fun k hk hd=>?_
 rcases Nat.lt_or_ge k m with h1|h1
 ·simp[h1]
 ·rw[h k h1 hk hd];rfl
theorem uH (h:jy ops aS=true) {j:Nat} (hj:j<ops.length):∀e∈(ops.getD j default).after.toList,Region.binds .any e=true->e.on<j:=by
 unfold jy at h;have:=List.all_eq_true.1 h j (List.mem_range.2 hj);rw[Bool.and_eq_true]at this;intro e he hb;have:=List.all_eq_true.1 this.1 e he;simpa[hb]using this
theorem E5 (h:jy ops aS=true) {i j:Nat} (Eh:i<j) (hj:j<ops.length):((wX [] ops).getD j 0).testBit i=true∨pW ops (ops.getD i default) (ops.getD j default) (aS.getD i {}) (aS.getD j {})=false:=by
 unfold jy at h;have:=List.all_eq_true.1 h j (List.mem_range.2 hj);rw[Bool.and_eq_true]at this;have:=List.all_eq_true.1 this.2 i (List.mem_range.2 Eh);rw[Bool.or_eq_true]at this;rcases this with h|h
 ·exact .inl h
 ·exact .inr (by simpa using h)
theorem ordered (h:jy ops aS=true) {E:Nat->Bool} (hE:pY ops E) {i j:Nat} (Eh:i<j) (hj:j<ops.length) (G0:E j=true)
  (hc:pW ops (ops.getD i default) (ops.getD j default) (aS.getD i {}) (aS.getD j {})=true):E i=true:=by
 rcases E5 h Eh hj with h1|h1
 ·exact hE.bef j hj G0 i h1
 ·rw[hc]at h1;cases h1
theorem Je {x y:Oper} {ex ey:bW} {t:Nat} (hd:x.dst=some t) (hu:t∈mC ops y∨y.dst=some t):pW ops x y ex ey=true:=by
 unfold pW;rw[hd];simp only;rcases hu with h|h
 ·have:(mC ops y).contains t=true:=by simpa using h
  rw[this];rfl
 ·rw[h];simp
theorem Pt {x y:Oper} {ex ey:bW} {t:Nat} (hd:y.dst=some t) (hu:t∈mC ops x):pW ops x y ex ey=true:=by
 unfold pW;rw[hd];have:(mC ops x).contains t=true:=by simpa using hu
 simp only[this,Bool.or_true,Bool.true_or]
theorem Jf {x y:Oper} {ex ey:bW} {b:Nat} (hd:b∈ids ex.wr) (hu:b∈ids ey.wr∨b∈ey.rd):pW ops x y ex ey=true:=by
 unfold pW;have:((ids ex.wr).any (fun b=>(ids ey.wr).contains b||ey.rd.contains b))=true:=List.any_eq_true.2 ⟨b,hd,by simpa using hu⟩;rw[this];simp
theorem Pu {x y:Oper} {ex ey:bW} {b:Nat} (hd:b∈ids ey.wr) (hu:b∈ex.rd):pW ops x y ex ey=true:=by
 unfold pW;have:(ex.rd.any (fun b=>(ids ey.wr).contains b))=true:=List.any_eq_true.2 ⟨b,hu,by simpa using hd⟩;rw[this];simp
def ru (E:Nat->Bool) (j:Nat):Nat->Bool:=fun k=>k==j||E k
theorem jQ {E:Nat->Bool} {j k:Nat} (h:k≠j):ru E j k=E k:=by simp[ru,h]
theorem rv {E:Nat->Bool} {j:Nat}:ru E j j=true:=by simp[ru]
section
variable {E:Nat->Bool} {j:Nat} (h:jy ops aS=true) (hE:pY ops E) (yn:pY ops (ru E j)) (hj:j<ops.length) (G0:E j=false)
include h hE yn hj G0
theorem E6 {k:Nat} (hk:k<j) (hc:pW ops (ops.getD k default) (ops.getD j default) (aS.getD k {}) (aS.getD j {})=true):E k=true:=by
 have:=ordered h yn hk hj rv hc;rwa[jQ (by omega)]at this
theorem ry {k:Nat} (hk:j<k) (UN:k<ops.length) (hc:pW ops (ops.getD j default) (ops.getD k default) (aS.getD j {}) (aS.getD k {})=true):E k=false:=by
 cases hx:E k with
 | false=>rfl
 | true=>have:=ordered h hE hk UN hx hc;rw[this]at G0;cases G0
theorem Kr:∀t∈mC ops (ops.getD j default),(dx st ops aS E ops.length).tmps.getD t .af=(dx st ops aS (fun _=>true) j).tmps.getD t .af:=by
 intro t ht;rw[List.getD_eq_getElem?_getD,List.getD_eq_getElem?_getD,<-nn (fun _=>true) ops.length (Nat.le_of_lt hj)];congr 1;refine oo _ fun k hk hd=>?_
 rcases Nat.lt_trichotomy k j with h1|h1|h1
 ·rw[E6 h hE yn hj G0 h1 (Je hd (.inl ht))];simp[h1]
 ·subst h1;rw[G0];simp
 ·rw[ry h hE yn hj G0 h1 hk (Pt hd ht)];simp;omega
theorem Ks:∀b∈(aS.getD j {}).rd,look (dx st ops aS E ops.length).heap b=look (dx st ops aS (fun _=>true) j).heap b:=by
 intro b hb;unfold look;rw[<-nn (fun _=>true) ops.length (Nat.le_of_lt hj)];congr 1;refine oq _ fun k hk hd=>?_
 rcases Nat.lt_trichotomy k j with h1|h1|h1
 ·rw[E6 h hE yn hj G0 h1 (Jf hd (.inr hb))];simp[h1]
 ·subst h1;rw[G0];simp
 ·rw[ry h hE yn hj G0 h1 hk (Pu hd hb)];simp;omega
theorem MO:(dx st ops aS E ops.length).app (ops.getD j default) (aS.getD j {})=dx st ops aS (ru E j) ops.length:=by
 have Mq:∀t:Nat,((dx st ops aS E ops.length).app (ops.getD j default) (aS.getD j {})).tmps[t]?=(dx st ops aS (ru E j) ops.length).tmps[t]?:=by
  intro t;rw[nk];split
  ·rename_i hd
   rw[Kp (m:=j+1) (by omega) (fun k h1 h2 h3=>by
    rw[jQ (by omega)];exact ry h hE yn hj G0 (by omega) h2 (Je hd (.inr h3)))]
   rw[dx,if_pos rv,nk,if_pos hd,(fL _ _).1,(fL _ _).1]
  ·rename_i hd
   refine oo _ fun k hk hd'=>?_
   rw[jQ]
   rintro rfl
   exact hd hd'
 have hhl:∀b:Nat,((dx st ops aS E ops.length).app (ops.getD j default) (aS.getD j {})).heap[b]?=(dx st ops aS (ru E j) ops.length).heap[b]?:=by
  intro b
  by_cases hb:b∈ids (aS.getD j {}).wr
  ·rw[Kq (m:=j+1) (by omega) (fun k h1 h2 h3=>by
    rw[jQ (by omega)];exact ry h hE yn hj G0 (by omega) h2 (Jf hb (.inl h3)))]
   rw[dx,if_pos rv];exact pX _ _ _ b (by rw[(fL _ _).2,(fL _ _).2]) hb
  ·have e1:((dx st ops aS E ops.length).app (ops.getD j default) (aS.getD j {})).heap[b]?=(dx st ops aS E ops.length).heap[b]?:=iL _ _ b hb
   rw[e1];refine oq _ fun k hk hd'=>?_
   rw[jQ]
   rintro rfl
   exact hb hd'
 generalize (dx st ops aS E ops.length).app (ops.getD j default) (aS.getD j {})=s1,dx st ops aS (ru E j) ops.length=s2 at *;cases s1;cases s2;simp only[St.mk.injEq];exact⟨List.ext_getElem? Mq,List.ext_getElem? hhl⟩
end
def left (E:Nat->Bool):Nat->Nat
 | 0=>0
 | n+1=>left E n+if E n then 0 else 1
theorem E7 {E:Nat->Bool} {j:Nat} (G0:E j=false):∀n,(n<=j->left (ru E j) n=left E n)/\(j<n->left (ru E j) n+1=left E n)
 | 0=>⟨fun _=>rfl,fun h=>by omega⟩
 | n+1=>by
  obtain⟨h1,h2⟩:=E7 G0 n;refine⟨fun h=>?_,fun h=>?_⟩
  ·rw[left,left,h1 (by omega),jQ (by omega)]
  ·rw[left,left]
   by_cases hjn:n=j
   ·subst hjn
    rw[h1 (Nat.le_refl _),rv,G0];simp
   ·rw[jQ hjn,<-h2 (by omega)];omega
theorem AI {E:Nat->Bool}:∀n,left E n=0->∀k,k<n->E k=true
 | 0,_,k,hk=>by omega
 | n+1,h,k,hk=>by
  rw[left]at h
  by_cases UN:k=n
  ·subst UN
   cases hx:E k with
   | true=>rfl
   | false=>rw[hx]at h;simp at h
  ·exact AI n (by omega) k (by omega)
theorem lA:∀(l:List Oper) (k:Nat),k<l.length->bB C (l.take (k+1))=bB C (l.take k)+slotsOf C (l.getD k default).op
 | o::l,0,_=>by simp[bB]
 | o::l,k+1,h=>by
  have:=lA l k (by simpa using h);simp only[List.take_succ_cons,bB,List.getD_cons_succ]at this ⊢;omega
theorem lB:∀(l:List Oper) (k j:Nat),k<=j->bB C (l.take k)<=bB C (l.take j)
 | [],k,j,_=>by simp
 | o::l,0,j,_=>by simp[bB]
 | o::l,k+1,j+1,h=>by
  have:=lB l k j (by omega);simp only[List.take_succ_cons,bB];omega
end
section
variable {P:Program} {C:eh} {K:Ctx} {ops:List Oper} {aS:List bW} {st Pv:St} {n0:Nat} {Q:bf->St->Prop}
structure Jg (C:eh) (K:Ctx) (ops:List Oper) (aS:List bW) (Pv:St) (s0:Nat) (E:Nat->Bool) (a:Act) (w:World):Prop where
 dy:pY ops E
 sat:∃β S,Sat K β S (dx Pv ops aS E ops.length) a w/\∀k,k<ops.length->E k=false->∀s,s0+bB C (ops.take k)<=s->s<s0+bB C (ops.take k)+slotsOf C (ops.getD k default).op->s<Pv.heap.length/\β s=none
def mJ (bS:Array Bool):Nat->Bool:=fun k=>bS.getD k false
theorem rA {bS:Array Bool} {j:Nat} (hj:j<bS.size):mJ (bS.setIfInBounds j true)=ru (mJ bS) j:=by
 funext k;show(bS.setIfInBounds j true).getD k false=(k==j||bS.getD k false)
 rw[Array.getD_eq_getD_getElem?,Array.getD_eq_getD_getElem?,Array.getElem?_setIfInBounds]
 by_cases h:j=k
 ·subst h;simp[hj]
 ·rw[if_neg h]
  have:(k==j)=false:=by simp;omega
  rw[this,Bool.false_or]
theorem tx {bS:Array Bool} {j:Nat} (hl:bS.size=ops.length):j∈Region.ready .any ops.toArray bS↔j<ops.length/\mJ bS j=false/\∀e∈(ops.getD j default).after.toList,Region.binds .any e=true->mJ bS e.on=true:=by
 unfold Region.ready mJ;rw[List.mem_filter,List.mem_range];simp only[List.size_toArray,Bool.and_eq_true,Bool.not_eq_true'];constructor
 ·rintro⟨h1,h2,h3⟩
  refine⟨h1,?_,fun e he hb=>?_⟩
  ·rw[Array.getD_eq_getD_getElem?,Array.getElem?_eq_getElem (by omega)]at h2 ⊢;exact h2
  ·have e1:ops.toArray[j]?=some (ops.getD j default):=by simp[List.getElem?_eq_getElem h1]
   rw[e1]at h3;simp only[Option.map_some,Option.getD_some]at h3;have:=(Array.all_eq_true'.1 h3) e (by simpa using he);simpa[hb]using this
 ·rintro⟨h1,h2,h3⟩
  refine⟨h1,?_,?_⟩
  ·rw[Array.getD_eq_getD_getElem?,Array.getElem?_eq_getElem (by omega)]at h2 ⊢;exact h2
  ·have e1:ops.toArray[j]?=some (ops.getD j default):=by simp[List.getElem?_eq_getElem h1]
   rw[e1];simp only[Option.map_some,Option.getD_some];refine Array.all_eq_true'.2 fun e he=>?_
   cases hb:Region.binds .any e with
   | false=>rfl
   | true=>simpa using h3 e (by simpa using he) hb
theorem C4 {bS:Array Bool} (hl:bS.size=ops.length) (iU:jy ops aS=true) (h:Region.ready .any ops.toArray bS=[]):∀k,k<ops.length->mJ bS k=true:=by
 intro k
 induction k using Nat.strongRecOn with
 | _ k ih=>
  intro hk;cases hx:mJ bS k with
  | true=>rfl
  | false=>
   have:k∈Region.ready .any ops.toArray bS:=(tx hl).2 ⟨hk,hx,fun e he hb=>ih e.on (uH iU hk e he hb) (by have:=uH iU hk e he hb;omega)⟩;rw[h]at this;cases this
theorem E8 {E:Nat->Bool} (h:∀k,k<ops.length->E k=true):∀m,m<=ops.length->dx st ops aS E m=dx st ops aS (fun _=>true) m
 | 0,_=>rfl
 | m+1,hm=>by
  rw[dx,dx,E8 h m (by omega),h m (by omega)]
theorem MQ (hC:bq P C) {s0:Nat} (iU:jy ops aS=true) (dN:∀i,i<ops.length->fw P C ops (s0+bB C (ops.take i)) (ops.getD i default) (dx Pv ops aS (fun _=>true) i) (·=aS.getD i {}))
  (hQ:Q .normal (dx Pv ops aS (fun _=>true) ops.length)) :
  ∀(fuel:Nat) (bS:Array Bool) (a:Act) (w:World),bS.size=ops.length->left (mJ bS) ops.length<=fuel->Jg C K ops aS Pv s0 (mJ bS) a w->wpAny P .any ops.toArray (MI K Q) fuel bS a w:=by
 have done:∀(bS:Array Bool) (a:Act) (w:World),(∀k,k<ops.length->mJ bS k=true)->Jg C K ops aS Pv s0 (mJ bS) a w->MI K Q .normal a w:=by
  intro bS a w jr hinv;obtain⟨β,S,hs,_⟩:=hinv.sat;rw[E8 jr _ (Nat.le_refl _)]at hs;exact⟨.normal,_,rfl,hQ,β,S,hs⟩
 intro fuel
 induction fuel with
 | zero=>
  intro bS a w hl hf hinv;have jr:=AI ops.length (by omega:left (mJ bS) ops.length=0);refine⟨?_,done bS a w jr hinv⟩;rw[List.eq_nil_iff_forall_not_mem];intro j hj;obtain⟨h1,h2,_⟩:=(tx hl).1 hj;rw[jr j h1]at h2;cases h2
 | succ fuel ih=>
  intro bS a w hl hf hinv;refine⟨fun hr=>done bS a w (C4 hl iU hr) hinv,fun j hj=>?_⟩;obtain⟨h1,h2,h3⟩:=(tx hl).1 hj;obtain⟨β,S,hs,jN⟩:=hinv.sat;have yn:pY ops (ru (mJ bS) j):=by
   intro k hk Kt e he hb;unfold ru at Kt ⊢;rw[Bool.or_eq_true]at Kt ⊢;rcases Kt with Kt|Kt
   ·have:k=j:=by simpa using Kt
    subst this;exact .inr (h3 e he hb)
   ·exact .inr (hinv.dy k hk Kt e he hb)
  have Jh:fw P C ops (s0+bB C (ops.take j)) (ops.getD j default) (dx Pv ops aS (mJ bS) ops.length) (·=aS.getD j {}):=
   E0 (Kr iU hinv.dy yn h1 h2) (Ks iU hinv.dy yn h1 h2) (dN j h1)
  have aa8:=MO (st:=Pv) iU hinv.dy yn h1 h2;unfold wpOp;have e1:ops.toArray[j]?=some (ops.getD j default):=by simp[List.getElem?_eq_getElem h1]
  rw[e1];refine wL hC hs (fun s q1 q2=>by
   obtain⟨r1,r2⟩:=jN j h1 h2 s q1 q2;exact⟨by rw[(fL _ _).2];exact r1,r2⟩) Jh fun e w' v β' S' he sR hβ'=>?_
  subst he;rw[aa8]at sR;refine ih _ _ _ (by simpa using hl) ?_ ⟨?_,β',S',?_,fun k hk Kt s q1 q2=>?_⟩
  ·rw[rA (by omega)]
   have:=(E7 h2 ops.length).2 h1;omega
  ·rw[rA (by omega)];exact yn
  ·rw[rA (by omega)];exact sR
  ·rw[rA (by omega)]at Kt
   have YP:k≠j:=by rintro rfl;rw[rv]at Kt;cases Kt
   rw[jQ YP]at Kt;obtain⟨r1,r2⟩:=jN k hk Kt s q1 q2;refine⟨r1,?_⟩;rw[hβ' s]
   ·exact r2
   ·rcases Nat.lt_trichotomy k j with h4|h4|h4
    ·left
     have:=lB (C:=C) ops (k+1) j (by omega);rw[lA ops k hk]at this;omega
    ·exact absurd h4 YP
    ·right
     have:=lB (C:=C) ops (j+1) k (by omega);rw[lA ops j h1]at this;omega
theorem MR (l:List Oper) (k:Nat) (hk:k<l.length):bB C (l.take k)+slotsOf C (l.getD k default).op<=bB C l:=by
 rw[<-lA l k hk];have:=lB (C:=C) l (k+1) l.length (by omega);rwa[List.take_length]at this
theorem dH.draw (hC:bq P C) (eS:P.follows .mixedOrders=true) {id:Nat} {ops:Array Oper}
  (hk:wM P C ops.toList ops.toList st.heap.length (st.ext (bB C ops.toList)) [] fun aS tu=>jy ops.toList aS=true/\Q .normal tu):dH P n0 (.region id ops true) st Q:=by
 obtain⟨es,h1,h2,h3,h4⟩:=E4 _ _ _ _ _ hk;rw[List.nil_append]at h3;intro K hn β S a w h;refine wp_region_any eS ?_;have:=MQ (K:=K) (Q:=Q) hC h3 h2 h4 ops.size (Array.replicate ops.size false) a { w with drawn:=w.drawn+1 } (by simp) ?_ ⟨?_,β,S,?_,?_⟩
 ·simpa using this
 ·have:∀(E:Nat->Bool) m,left E m<=m:=by
   intro E m
   induction m with
   | zero=>exact Nat.le_refl _
   | succ m ih=>rw[left];split<;>omega
  simpa using this _ ops.toList.length
 ·intro k hk hE
  unfold mJ at hE;rw[Array.getD_eq_getD_getElem?,Array.getElem?_replicate]at hE;split at hE<;>simp at hE
 ·have e1:∀m,dx (st.ext (bB C ops.toList)) ops.toList es (mJ (Array.replicate ops.size false)) m=st.ext (bB C ops.toList):=by
   intro m
   induction m with
   | zero=>rfl
   | succ m ih=>
    have:mJ (Array.replicate ops.size false) m=false:=by
     unfold mJ;rw[Array.getD_eq_getD_getElem?,Array.getElem?_replicate];split<;>rfl
    rw[dx,this,ih];rfl
  rw[e1];exact(h.ext _).drawn _
 ·intro k hk _ s q1 q2
  refine⟨?_,?_⟩
  ·have:=MR (C:=C) ops.toList k hk
   simp[St.ext];omega
  ·cases hx:β s with
   | none=>rfl
   | some R=>have:=h.top s R hx;omega
end
structure St.Ek (n0:Nat) (ρ:Nat->Nat) (s s':St):Prop where
 len:s'.tmps.length=s.tmps.length
 tmps:∀(i:Nat) (x:AV),s'.tmps[i]?=some x->x=.af∨x.aI/\s.tmps[i]?=some (x.ay ρ)
 heap:∀b au,look s'.heap b=some au->look s.heap (ρ b)=some (au.ay ρ)
 inj:∀b b' au db,look s'.heap b=some au->look s'.heap b'=some db->ρ b=ρ b'->b=b'
 fix:∀b,b<n0->ρ b=b
section
variable {β:Nat->Option bR} {S:Place} {w:World} {n:Nat} {ρ:Nat->Nat}
theorem dq.ay {c:Cell} {v:Value} (h:dq β S w (c.ay ρ) v) (hb:c.aM n=true):dq (fun b=>if b<n then β (ρ b) else none) S w c v:=by
 cases c with
 | t x=>cases h with|t h=>exact .t h
 | ptr b r c=>cases h with|ptr R h=>exact .ptr R (by simp only[Cell.aM,decide_eq_true_eq]at hb;rw[if_pos hb];exact h)
 | tp row c=>cases h with|tp cb co val h=>exact .tp cb co val h
 | sl b off len cp=>cases h with|sl R base cap h h1 h2 h3 h4 h5=>exact .sl R base cap (by simp only[Cell.aM,decide_eq_true_eq]at hb;rw[if_pos hb];exact h) h1 h2 h3 h4 h5
 | mp b=>cases h with|mp R h=>exact .mp R (by simp only[Cell.aM,decide_eq_true_eq]at hb;rw[if_pos hb];exact h)
 | dy f aK=>
  cases h with
  | dy vs h1 h2=>
   refine .dy vs (by rw[h1,List.length_map]) fun i b r c hi=>?_
   obtain⟨R,e1,e2⟩:=h2 i (ρ b) r c (by rw[List.getElem?_map,hi];rfl);have:=List.all_eq_true.1 hb _ (List.mem_of_getElem? hi);exact⟨R,by rw[if_pos (by simpa using this)];exact e1,e2⟩
theorem aH.ay {x:AV} {v:Value} (h:aH β S w (x.ay ρ) v) (ht:x.aI) (hb:x.aM n=true):aH (fun b=>if b<n then β (ρ b) else none) S w x v:=by
 cases x with
 | c x=>cases h with|c h=>exact .c (h.ay (by simpa[AV.aM]using hb))
 | agg l=>
  cases h with
  | agg vs h1 h2=>
   refine .agg vs (by rw[h1,List.length_map]) fun i c hi=>?_
   obtain⟨v,e1,e2⟩:=h2 i (c.ay ρ) (by rw[List.getElem?_map,hi];rfl);simp only[AV.aM]at hb;exact⟨v,e1,e2.ay (List.all_eq_true.1 hb c (List.mem_of_getElem? hi))⟩
 | pD l=>exact ht.elim
 | af=>exact .af v
theorem aC.C5 {au:aC} {R:bR}:(au.ay ρ).ext R=au.ext R:=by
 cases au<;>(funext b o;simp[aC.ay,aC.ext])
theorem aC.SZ {au:aC} {R:bR}:(au.ay ρ).wr R=au.wr R:=by
 cases au<;>(funext b o;simp[aC.ay,aC.wr])
theorem Sat.ay {K:Ctx} {n0:Nat} {s s':St} {a:Act} (h:Sat K β S s a w) (hl:s.Ek n0 ρ s') (hb:s'.aM=true) (hn:∀i R,K.β0 i=some R->i<n0) (hk:n0<=s'.heap.length) :
  Sat K (fun b=>if b<s'.heap.length then β (ρ b) else none) S s' a w:=by
 simp only[St.aM,Bool.and_eq_true]at hb;refine⟨by rw[hl.len];exact h.len,h.defers,fun t x ht=>?_,fun b R hR=>?_,fun b au gT=>?_,fun b b' au db R R' cY h1 h2 hR gW=>?_,h.sN,h.sin,h.sub,h.jF,fun i R hi=>by
  rw[if_pos (Nat.lt_of_lt_of_le (hn i R hi) hk),hl.fix i (hn i R hi)];exact h.arg i R hi⟩
 ·rcases hl.tmps t x ht with rfl|⟨h1,hx⟩
  ·exact .af _
  ·exact(h.tmps t _ hx).ay h1 (List.all_eq_true.1 hb.1 x (List.mem_of_getElem? ht))
 ·split at hR
  ·assumption
  ·cases hR
 ·obtain⟨R,e1,e2,e3,e4⟩:=h.au _ _ (hl.heap b au gT)
  have bG:=sW gT;rw[aC.C5]at e3;rw[aC.SZ]at e4;refine⟨R,by rw[if_pos bG];exact e1,?_,e3,e4⟩;cases au with
  | var cells=>
   simp only[aC.ay,eA,List.length_map]at e2;refine⟨e2.1,fun j c hj=>?_⟩;obtain⟨v,f1,f2⟩:=e2.2 j (c.ay ρ) (by rw[List.getElem?_map,hj];rfl);have hm:some (aC.var cells)∈s'.heap:=by
    unfold look at gT;cases hx:s'.heap[b]? with
    | none=>rw[hx]at gT;cases gT
    | some y=>rw[hx]at gT;simp at gT;subst gT;exact List.mem_of_getElem? hx
   have:=List.all_eq_true.1 hb.2 _ hm;simp only[aC.aM]at this;exact⟨v,f1,f2.ay (List.all_eq_true.1 this c (List.mem_of_getElem? hj))⟩
  | rows sz rows g fz=>exact e2
  | map cR=>exact e2
  | gB sz rows=>exact e2
 ·have l1:=sW h1
  have l2:=sW h2;rw[if_pos l1]at hR;rw[if_pos l2]at gW;have:=h.mz (ρ b) (ρ b') _ _ R R' (fun e=>cY (hl.inj b b' _ _ h1 h2 e)) (hl.heap _ _ h1) (hl.heap _ _ h2) hR gW;rw[aC.C5,aC.C5]at this;exact this
end
theorem dH.Pw {P:Program} {n0:Nat} {c:Code} {st:St} {Q:bf->St->Prop} (h:dH P n0 c st fun e s=>Q e s∨∃ρ s',s.Ek n0 ρ s'/\s'.aM=true/\n0<=s'.heap.length/\Q e s'):dH P n0 c st Q:=fun K hn β S a w hs=>
 wp_mono (h K hn β S a w hs) fun e a' w' ⟨x,s,h1,h2,β',S',h5⟩=>by
  rcases h2 with h2|⟨ρ,s',h2,h3,hk,h4⟩
  ·exact⟨x,s,h1,h2,β',S',h5⟩
  ·exact⟨x,s',h1,h4,_,S',h5.ay h2 h3 hn hk⟩
def aZ (ρ:Nat->Nat):List AV->List AV->Prop
 | [],[]=>True
 | x::xs,y::ys=>(y=.af∨y.aI/\x=y.ay ρ)/\aZ ρ xs ys
 | _,_=>False
def aq:List (Nat×Nat)->Nat->Nat
 | [],b=>b
 | (x,y)::l,b=>if b=x then y else aq l b
def a8 (ρ:Nat->Nat) (h:bM):Nat->bM->Prop
 | _,[]=>True
 | i,y::ys=>(match y with|none=>True|some b=>look h (ρ i)=some (b.ay ρ))/\a8 ρ h (i+1) ys
def aF (ρ:Nat->Nat):Nat->bM->List Nat
 | _,[]=>[]
 | i,none::ys=>aF ρ (i+1) ys
 | i,some _::ys=>ρ i::aF ρ (i+1) ys
theorem AJ {ρ:Nat->Nat}:∀ {xs ys:List AV},aZ ρ xs ys->ys.length=xs.length/\∀(i:Nat) (y:AV),ys[i]?=some y->y=.af∨y.aI/\xs[i]?=some (y.ay ρ)
 | [],[],_=>⟨rfl,by simp⟩
 | x::xs,y::ys,h=>by
  obtain⟨h1,h2⟩:=h;obtain⟨h3,h4⟩:=AJ h2;refine⟨by simp[h3],fun i z hz=>?_⟩;cases i with
  | zero=>
   simp at hz;subst hz;rcases h1 with h|⟨h,h'⟩
   ·exact .inl h
   ·exact .inr ⟨h,by simp[h']⟩
  | succ i=>simpa using h4 i z (by simpa using hz)
theorem AK {ρ:Nat->Nat} {h:bM}:∀ {ys:bM} {i:Nat},a8 ρ h i ys->∀(j:Nat) (b:aC),look ys j=some b->look h (ρ (i+j))=some (b.ay ρ)
 | [],i,_,j,b,hb=>by simp[look]at hb
 | y::ys,i,⟨h1,h2⟩,j,b,hb=>by
  cases j with
  | zero=>simp[look]at hb;subst hb;exact h1
  | succ j=>
   have:=AK h2 j b (by simpa[look]using hb);rw[show i+(j+1)=i+1+j by omega];exact this
theorem tz {ρ:Nat->Nat}:∀ {ys:bM} {i:Nat} (j:Nat) (b:aC),look ys j=some b->ρ (i+j)∈aF ρ i ys
 | [],i,j,b,hb=>by simp[look]at hb
 | y::ys,i,j,b,hb=>by
  cases j with
  | zero=>simp[look]at hb;subst hb;exact .head _
  | succ j=>
   have:=tz (ρ:=ρ) (i:=i+1) j b (by simpa[look]using hb);rw[show i+(j+1)=i+1+j by omega];cases y with
   | none=>exact this
   | some y=>exact .tail _ this
theorem AL {ρ:Nat->Nat}:∀ {ys:bM} {i:Nat},(aF ρ i ys).Nodup->∀(j j':Nat) (b b':aC),look ys j=some b->look ys j'=some b'->ρ (i+j)=ρ (i+j')->j=j'
 | [],i,_,j,j',b,b',hb,_,_=>by simp[look]at hb
 | y::ys,i,hn,j,j',b,b',hb,bK,he=>by
  have ht:(aF ρ (i+1) ys).Nodup:=by
   cases y with
   | none=>exact hn
   | some y=>exact(List.nodup_cons.1 hn).2
  cases j with
  | zero=>
   cases j' with
   | zero=>rfl
   | succ j'=>
    simp[look]at hb;subst hb;have:=tz (ρ:=ρ) (i:=i+1) j' b' (by simpa[look]using bK);rw[show i+1+j'=i+(j'+1) by omega,<-he]at this;exact absurd this (List.nodup_cons.1 hn).1
  | succ j=>
   cases j' with
   | zero=>
    simp[look]at bK;subst bK;have:=tz (ρ:=ρ) (i:=i+1) j b (by simpa[look]using hb);rw[show i+1+j=i+(j+1) by omega,he]at this;exact absurd this (List.nodup_cons.1 hn).1
   | succ j'=>
    have:=AL ht j j' b b' (by simpa[look]using hb) (by simpa[look]using bK) (by rw[show i+1+j=i+(j+1) by omega,show i+1+j'=i+(j'+1) by omega];exact he);omega
theorem HB {n0:Nat} {s s':St} (m:List (Nat×Nat)) (h1:aZ (aq m) s.tmps s'.tmps) (h2:a8 (aq m) s.heap 0 s'.heap) (h3:(aF (aq m) 0 s'.heap).Nodup) (h4:∀p∈m,n0<=p.1):s.Ek n0 (aq m) s':=by
 obtain⟨a,b⟩:=AJ h1;refine⟨a,b,fun b au hb=>?_,fun b b' au db hb bK he=>?_,fun b hb=>?_⟩
 ·have:=AK h2 b au hb;rwa[Nat.zero_add]at this
 ·exact AL h3 b b' au db hb bK (by rw[Nat.zero_add,Nat.zero_add];exact he)
 ·have:∀l:List (Nat×Nat),(∀p∈l,n0<=p.1)->aq l b=b:=by
   intro l
   induction l with
   | nil=>intro _;rfl
   | cons p l ih=>
    intro h;obtain⟨x,y⟩:=p;have:=h (x,y) (.head _);simp only[aq];rw[if_neg (by simp at this;omega)];exact ih fun p hp=>h p (.tail _ hp)
  exact this m h4
theorem eY.rk {P:Program} {C:eh} {f:FuncId} (hC:bq P C) {fn:Func} {c:Code} {s s':St} (jm:P.funcs[f]?=some fn) (fb:(fn.name == "runtime.NumGoroutine")=false) (dB:fn.body=some c)
  (cZ:dH P s.heap.length c ⟨s.tmps++List.replicate (fn.ntmps-s.tmps.length) .af,s.heap⟩ fun e s2=>(e=.normal∨e=.ret)/\∃bI ρ,fn.results.toList.mapM (gn C s2)=some bI/\(St.mk bI s2.heap).Ek s.heap.length ρ s'/\s'.aM=true/\s.heap.length<=s'.heap.length):eY P f s s':=by
 refine⟨⟨fn,jm,by rw[dB];rfl,fb⟩,fun K β S a w hK hs=>?_⟩;refine calls_of_wp jm dB ?_;refine wp_mono (cZ K hK β S _ w ?_) fun e a' w' ⟨x,s2,hx,⟨SX,bI,ρ,eI,hle,S3,hlen⟩,β',S1,AM⟩=>?_
 ·refine⟨by simp[hs.len],rfl,fun t x ht=>?_,hs.top,hs.au,hs.mz,hs.sN,hs.sin,hs.sub,hs.jF,hs.arg⟩
  simp only at ht;rw[List.getElem?_append]at ht;split at ht
  ·rename_i bG
   have:=hs.tmps t x ht;rw[Array.getD_eq_getD_getElem?]at this ⊢;rw[Array.getElem?_append,if_pos (by rw[hs.len];exact bG)];exact this
  ·rw[List.getElem?_replicate]at ht
   split at ht
   ·cases ht;exact .af _
   ·cases ht
 ·obtain⟨vs,r1,r2,r3⟩:=jO (P:=P) hC AM eI
  have hs3:Sat K β' S1 ⟨bI,s2.heap⟩ { a with tmps:=vs.toArray } w':=by
   refine⟨by simp[r2],hs.defers,fun t x ht=>?_,AM.top,AM.au,AM.mz,AM.sN,AM.sin,AM.sub,AM.jF,AM.arg⟩;obtain⟨v,e1,e2⟩:=r3 t x ht;have:({ a with tmps:=vs.toArray }:Act).tmps.getD t undef=v:=by simp[e1]
   rw[this];exact e2
  have hs4:=hs3.ay hle S3 hK hlen;have eL:∃v,(results fn a'.tmps).run P w'=.ok v w'/\∃(us:List Value) (β':Nat->Option bR) (S':Place),Ending.returned v=.returned (if us.length=1 then us.getD 0 undef else .tuple us.toArray)/\us.length=s'.tmps.length/\Sat K β' S' s' { a with tmps:=us.toArray } w':=
   ⟨_,r1,vs,_,S1,rfl,by rw[r2,hle.len],hs4⟩
  cases e with
  | normal=>exact⟨AM.defers,eL⟩
  | ret=>exact⟨AM.defers,eL⟩
  | exit id=>cases hx;rcases SX with h|h<;>cases h
  | goto=>cases hx
  | panic=>cases hx
  | outgrown=>cases hx
def Px (heap:bM):AV->Option (AV×bM)
 | .c (.sl b off len cp)=>match look heap b with
  | some (.var cells)=>match bL (look heap) cells with
   | some (ts,m)=>if off+len<=cells.length then some (.c (.t (.aa cp (((ts.drop off).take len).map fun t=>[t]))),eK heap (m ++ [(b,none)])) else none
   | none=>none
  | _=>some (.c (.sl b off len cp),heap)
 | x=>some (x,heap)
def MS:bM->List AV->Option (List AV×bM)
 | h,[]=>some ([],h)
 | h,x::xs=>match Px h x with
  | some (y,h1)=>match MS h1 xs with
   | some (ys,h2)=>some (y::ys,h2)
   | none=>none
  | none=>none
def vG (C:eh) (st:St) (args:List Arg) (LU:List ResultVar) (om:List Mode):Option mB:=
 match LU.mapM (gn C st) with
 | none=>none
 | some bI=>match MS st.heap bI with
  | some (pZ,eP)=>rj eP pZ args om
  | none=>none
section
variable {P:Program} {C:eh} {K:Ctx} {β:Nat->Option bR} {S:Place} {a:Act} {w:World} {f:FuncId} {tm:List AV}
theorem E9 {heap eP:bM} (h:Sat K β S ⟨tm,heap⟩ a w) {x x':AV} {v:Value} (hx:aH β S w x v) (hf:Px heap x=some (x',eP)) :
  ∃S',(∀c o,S c o->S' c o)/\Sat K β S' ⟨tm,eP⟩ a w/\aH β S' w x' v:=by
 unfold Px at hf;split at hf
 ·rename_i b off len cp
  split at hf
  ·rename_i cells hb
   split at hf
   ·rename_i ts m ht
    split at hf
    ·rename_i hle
     cases hf;obtain⟨S1,Rb,h1⟩:=h.Mz hb ht;have Mw:=sW hb;have mO:look (eK heap (m ++ [(b,some (.var (ts.map .t)))])) b=some (.var (ts.map .t)):=by
      rw[GX];exact Ap (by rw[Mi];exact Mw) _
     obtain⟨S2,Rc,h2,iR⟩:=Sat.AD (st:=⟨tm,eK heap (m ++ [(b,some (.var (ts.map .t)))])⟩) h1 mO;have jG:(eK heap (m ++ [(b,some (.var (ts.map .t)))])).set b none=eK heap (m ++ [(b,none)]):=by
      rw[GX,GX];show((eK heap m).set b _).set b none=(eK heap m).set b none
      rw[List.set_set]
     rw[jG]at h2;refine⟨S2,fun c o hs=>Rc _ _ (Rb _ _ hs),h2,?_⟩;cases hx with|c hx=>
     cases hx with|sl R base cap hR g1 g2 g3 g4 g5=>
     obtain⟨R',gW,⟨⟨vC,dN,Hk⟩,GY⟩,_,_⟩:=h1.au b _ mO;rw[hR]at gW;cases gW;have hlen:ts.length=cells.length:=by
      obtain⟨wm,mG,⟨_,abb⟩,_,_⟩:=h.au b _ hb;obtain⟨vs,LK⟩:∃vs:List Value,vs=(List.range cells.length).map fun j=>(w.cell? ⟨wm.cb,wm.co+j,none⟩).getD undef:=⟨_,rfl⟩
      obtain⟨_,_,_,_,hl,_⟩:=gk (st:=⟨tm,heap⟩) cells vs heap S ts m h (eF.refl _) (by rw[LK];simp) (fun i c hi=>by
       obtain⟨v,e1,e2⟩:=abb i c hi;have bG:=(List.getElem?_eq_some_iff.1 hi).1;exact⟨v,by rw[LK,List.getElem?_map,List.getElem?_range bG,Option.map_some,e1];rfl,e2⟩) ht
      exact hl
     have yx:(((ts.drop off).take len).map fun t=>[t]).length=len:=by rw[List.length_map,List.length_take,List.length_drop];omega
     have key:=dR.aa (S:=S2) (w:=w) cp (((ts.drop off).take len).map fun t=>[t]) base R.cb (R.co+off) 1 cap (fun i _=>(w.cell? ⟨R.cb,R.co+off+i,none⟩).getD undef)
      (by omega) (by omega) (by omega) (fun hc=>by rw[yx];exact g1 hc) (fun cY=>?_) (fun hn=>?_) (fun r hr=>?_) (fun i j t Eh=>?_) (fun i j t Eh=>?_)
     ·rw[yx]at key
      exact .c (.t key)
     ·have:0<len:=by
       rcases Nat.eq_zero_or_pos len with h0|h0
       ·exact absurd (List.length_eq_zero_iff.1 (by rw[yx,h0])) cY
       ·exact h0
      rw[g5 (by omega),dN,Nat.mul_one]
     ·rcases Nat.eq_zero_or_pos cap with h0|h0
      ·exact h0
      ·rw[g5 h0]at hn;cases hn
     ·obtain⟨t,_,rfl⟩:=List.mem_map.1 hr;rfl
     all_goals
      obtain⟨row,da,hj⟩:=Option.bind_eq_some_iff.1 Eh;rw[List.getElem?_map]at da;obtain⟨t',mM,rfl⟩:=Option.map_eq_some_iff.1 da;have hj0:j=0:=by
       cases j with
       | zero=>rfl
       | succ j=>simp at hj
      subst hj0;simp at hj;subst hj;have hil:=(List.getElem?_eq_some_iff.1 mM).1;rw[List.length_take,List.length_drop]at hil;rw[List.getElem?_take,if_pos (by omega),List.getElem?_drop]at mM;obtain⟨v,e1,e2⟩:=GY (off+i) (.t t') (by rw[List.getElem?_map,mM];rfl);rw[<-Nat.add_assoc]at e1
     ·refine⟨iR R hR _ (by omega) (by rw[List.length_map];omega),?_⟩
      rw[Nat.mul_one,Nat.add_zero,e1];rfl
     ·rw[e1]
      cases e2 with|t e2=>exact e2.mono Rc fun _ _ _=>rfl
    ·cases hf
   ·cases hf
  ·cases hf;exact⟨S,fun _ _ hs=>hs,h,hx⟩
 ·cases hf;exact⟨S,fun _ _ hs=>hs,h,hx⟩
theorem Fb:∀(bI:List AV) (vs:List Value) (heap eP:bM) (S:Place) (pZ:List AV),Sat K β S ⟨tm,heap⟩ a w->vs.length=bI.length->(∀(i:Nat) (x:AV),bI[i]?=some x->∃v,vs[i]?=some v/\aH β S w x v)->MS heap bI=some (pZ,eP) ->
  ∃S',(∀c o,S c o->S' c o)/\Sat K β S' ⟨tm,eP⟩ a w/\vs.length=pZ.length/\∀(i:Nat) (x:AV),pZ[i]?=some x->∃v,vs[i]?=some v/\aH β S' w x v
 | [],vs,heap,eP,S,pZ,h,hl,hr,hf=>by
  simp[MS]at hf;obtain⟨rfl,rfl⟩:=hf;exact⟨S,fun _ _ hs=>hs,h,hl,by simp⟩
 | x::xs,[],_,_,_,_,_,hl,_,_=>by simp at hl
 | x::xs,v::vs,heap,eP,S,pZ,h,hl,hr,hf=>by
  unfold MS at hf;split at hf
  ·rename_i y h1 hy
   split at hf
   ·rename_i ys h2 hys
    cases hf;obtain⟨v',sQ,hx⟩:=hr 0 x rfl;simp at sQ;subst sQ;obtain⟨S1,e1,e2,e3⟩:=E9 h hx hy;obtain⟨S2,f1,f2,f3,f4⟩:=Fb xs vs h1 eP S1 ys e2 (by simpa using hl) (fun i z hz=>by
     obtain⟨u,q1,q2⟩:=hr (i+1) z (by simpa using hz);exact⟨u,by simpa using q1,q2.mono (fun _ _ hx=>hx) e1 fun _ _ _=>rfl⟩) hys
    refine⟨S2,fun c o hs=>f1 _ _ (e1 _ _ hs),f2,by simp[f3],fun i z hz=>?_⟩;cases i with
    | zero=>simp at hz;subst hz;exact⟨v,rfl,e3.mono (fun _ _ hx=>hx) f1 fun _ _ _=>rfl⟩
    | succ i=>simpa using f4 i z (by simpa using hz)
   ·cases hf
  ·cases hf
theorem ah.wZ (hC:bq P C) {fn:Func} {c:Code} {args:List Arg} {res:mB} {om:List Mode} (jm:P.funcs[f]?=some fn) (fb:(fn.name == "runtime.NumGoroutine")=false) (dB:fn.body=some c)
  (cZ:dH P args.length c (fQ args fn.ntmps) fun e s=>(e=.normal∨e=.ret)/\vG C s args fn.results.toList om=some res):ah P f args res:=by
 refine⟨⟨fn,jm,by rw[dB];rfl,fb⟩,fun S w aT Rs hp=>?_⟩;refine calls_of_wp jm dB ?_;have kC:=AF hp fn.ntmps;have dS:(aT.take (kE args)).toArray.size=(aT.take (kE args)).length:=by simp
 rw[dS];refine wp_mono (cZ _ (fun i R hi=>?_) _ S _ w kC) fun e a' w' ⟨x,s,hx,⟨SX,fY⟩,β',S1,hs⟩=>?_
 ·simp only[βA]at hi
  split at hi
  ·rename_i h1
   obtain⟨y,hy⟩:=Option.isSome_iff_exists.1 h1;obtain⟨z,h2,_⟩:=Option.bind_eq_some_iff.1 hy;exact uo h2
  ·cases hi
 unfold vG at fY;split at fY
 ·cases fY
 ·rename_i bI Hy
  split at fY
  ·rename_i pZ eP GW
   obtain⟨vs,r1,r2,r3⟩:=jO (P:=P) hC hs Hy;obtain⟨S2,q1,q2,q3,q4⟩:=Fb (tm:=s.tmps) bI vs s.heap eP S1 pZ hs r2 r3 GW;have EY:=Jd q2 q3 q4 fY;have eL:∃v,(results fn a'.tmps).run P w'=.ok v w'/\∃u,Ending.returned v=.returned u/\fK args res S w Rs u w':=⟨_,r1,_,rfl,EY⟩;cases e with
   | normal=>exact⟨hs.defers,eL⟩
   | ret=>exact⟨hs.defers,eL⟩
   | exit id=>cases hx;rcases SX with h|h<;>cases h
   | goto=>cases hx
   | panic=>cases hx
   | outgrown=>cases hx
  ·cases fY
end
inductive Ask where
 | a (args:List Arg)
 | h (s:St)
inductive pf where
 | a (r:mB)
 | h (s:St)
def kH (P:Program) (f:FuncId):Ask->pf->Prop
 | .a args,.a r=>ah P f args r
 | .h s,.h s'=>eY P f s s'
 | _,_=>False
def MT (C:eh) (call:FuncId->Ask->Option pf) (ops:List Oper) (slot:Nat) (o:Oper) (st:St):Option bW:=
 match ir st.tmps ops o with
 | none=>none
 | some false=>some ri
 | some true=>
  match o.op with
  | .call { callee:=.value f,args,.. }=>
   match tq (st.get f) (args.toList.map st.get) with
   | none=>none
   | some (sS,bI)=>
    match C.md sS with
    | .sh _::_=>
     match pS (look st.heap) bI with
     | none=>none
     | some (ids,s)=>
      match call sS (.h s) with
      | some (.h s')=>wH ids slot (slotsOf C o.op) s'
      | _=>none
    | ms=>
     match eQ (look st.heap) ms bI with
     | none=>none
     | some (as,marks,dQ)=>
      match call sS (.a as) with
      | some (.a res)=>gG (look st.heap) slot marks dQ res
      | _=>none
  | op=>evalOp C slot st.get (look st.heap) op
def rB (C:eh) (call:FuncId->Ask->Option pf) (ops:List Oper):List Oper->Nat->St->List bW->Option (List bW×St)
 | [],_,st,tr=>some (tr,st)
 | o::os,slot,st,tr=>
  match MT C call ops slot o st with
  | some e=>rB C call ops os (slot+slotsOf C o.op) (st.app o e) (tr ++ [e])
  | none=>none
def MU (ops:List Oper) (x y:Oper):Bool:=
 (match x.dst with|some d=>(mC ops y).contains d||y.dst==some d|none=>false) ||
 (match y.dst with|some d=>(mC ops x).contains d|none=>false)
def Fc (ex ey:bW):Bool:=(ids ex.wr).any (fun b=>(ids ey.wr).contains b||ey.rd.contains b)||ex.rd.any fun b=>(ids ey.wr).contains b
def Fe (ops:List Oper):Bool:=
 (List.range ops.length).all fun j=>(((ops.getD j default).after.toList.all fun e=>!Region.binds .any e||decide (e.on<j))) &&
  (List.range j).all fun i=>((wX [] ops).getD j 0).testBit i || !MU ops (ops.getD i default) (ops.getD j default)
def AN (ops:List Oper) (aS:List bW):Bool:=
 (aS.all fun e=>e.wr.isEmpty)||(List.range ops.length).all fun j=>(List.range j).all fun i=>!Fc (aS.getD i {}) (aS.getD j {})||((wX [] ops).getD j 0).testBit i
theorem AO {ops:List Oper} {aS:List bW} (h1:Fe ops=true) (h2:AN ops aS=true):jy ops aS=true:=by
 have hH:∀j,j<ops.length->∀i,i<j->((wX [] ops).getD j 0).testBit i=true∨Fc (aS.getD i {}) (aS.getD j {})=false:=by
  intro j hj i hi;unfold AN at h2;rw[Bool.or_eq_true]at h2;rcases h2 with h2|h2
  ·right
   have hw:∀k,(aS.getD k {}).wr=[]:=by
    intro k;rw[List.getD_eq_getElem?_getD];cases hk:aS[k]? with
    | none=>rfl
    | some e=>simpa using List.all_eq_true.1 h2 e (List.mem_of_getElem? hk)
   simp only[Fc,hw,ids,List.map_nil,List.any_nil,Bool.false_or];rw[List.any_eq_false];simp
  ·have:=List.all_eq_true.1 (List.all_eq_true.1 h2 j (List.mem_range.2 hj)) i (List.mem_range.2 hi)
   rw[Bool.or_eq_true]at this;rcases this with h|h
   ·exact .inr (by simpa using h)
   ·exact .inl h
 unfold Fe at h1;unfold jy;refine List.all_eq_true.2 fun j hj=>?_
 have h1j:=List.all_eq_true.1 h1 j hj;rw[Bool.and_eq_true]at h1j ⊢;refine⟨h1j.1,List.all_eq_true.2 fun i hi=>?_⟩;have h1i:=List.all_eq_true.1 h1j.2 i hi;rw[Bool.or_eq_true]at h1i ⊢;rcases h1i with h|h
 ·exact .inl h
 ·rcases hH j (List.mem_range.1 hj) i (List.mem_range.1 hi) with h'|h'
  ·exact .inl h'
  ·right
   have e1:pW ops (ops.getD i default) (ops.getD j default) (aS.getD i {}) (aS.getD j {})=(MU ops (ops.getD i default) (ops.getD j default)||Fc (aS.getD i {}) (aS.getD j {})):=by
    unfold pW MU Fc
    first
     | (simp only[Bool.or_assoc];done)
     | (simp only[Bool.or_assoc];rfl)
   rw[e1,h'];simpa using h
def dT (C:eh) (call:FuncId->Ask->Option pf):Nat->Code->St->Option (bf×St)
 | 0,_,_=>none
 | n+1,c,st=>
  match c with
  | .skip=>some (.normal,st)
  | .ret=>some (.ret,st)
  | .exit id=>some (.exit id,st)
  | .seq x y=>
   match dT C call n x st with
   | some (.normal,s)=>dT C call n y s
   | r=>r
  | .region _ ops draw=>
   match rB C call ops.toList ops.toList st.heap.length (st.ext (bB C ops.toList)) []with
   | some (aS,s)=>if !draw||(Fe ops.toList&&AN ops.toList aS) then some (.normal,s) else none
   | none=>none
  | .cond c x y=>
   match(st.get c).bool? with
   | some true=>dT C call n x st
   | some false=>dT C call n y st
   | none=>none
  | .block id c=>
   match dT C call n c st with
   | some (.exit Ej,s)=>if Ej=id then some (.normal,s) else some (.exit Ej,s)
   | r=>r
  | .loop c=>
   match dT C call n c st with
   | some (.normal,s)=>dT C call n (.loop c) s
   | r=>r
  | _=>none
def Ff (n:Nat) (heap:bM) (bI:List AV):List Nat:=
 reach (look heap) 400 (bI.flatMap AV.refs++(List.range n).flatMap fun b=>match look heap b with|some (.var cells)=>cells.flatMap Cell.refs|_=>[]) (List.range n)
def Ji (n:Nat) (ids:List Nat) (heap:bM) (bI:List AV):Bool:=
 decide (ids.take n=List.range n)&&decide (n<=ids.length)&&decide ids.Nodup&&bI.all (·.fu ids)&&ids.all fun b=>match look heap b with|some (.var cells)=>cells.all (·.fu ids)|_=>true
def C6 (n:Nat) (heap:bM) (bI:List AV):Option St:=
 let ids:=Ff n heap bI
 if Ji n ids heap bI then some (eR (look heap) ids bI) else none
def S4 (s:St) (ntmps:Nat):St:=⟨s.tmps++List.replicate (ntmps-s.tmps.length) .af,s.heap⟩
def vH (C:eh) (n:Nat) (s:St) (LU:List ResultVar):Option St:=
 match LU.mapM (gn C s) with
 | none=>none
 | some bI=>C6 n s.heap bI
def C7 (P:Program) (C:eh) (om:FuncId->List Mode) (call:FuncId->Ask->Option pf) (n:Nat) (f:FuncId) (x:Ask):Option pf:=
 match P.funcs[f]? with
 | some fn=>
  if fn.name == "runtime.NumGoroutine" then none else
  match fn.body with
  | some c=>
   match x with
   | .a args=>match dT C call n c (fQ args fn.ntmps) with
    | some (.normal,s)=>(vG C s args fn.results.toList (om f)).map .a
    | some (.ret,s)=>(vG C s args fn.results.toList (om f)).map .a
    | _=>none
   | .h s0=>match dT C call n c (S4 s0 fn.ntmps) with
    | some (.normal,s)=>(vH C s0.heap.length s fn.results.toList).map .h
    | some (.ret,s)=>(vH C s0.heap.length s fn.results.toList).map .h
    | _=>none
  | none=>none
 | none=>none
def rC (P:Program) (C:eh) (om:FuncId->List Mode):Nat->FuncId->Ask->Option pf
 | 0,_,_=>none
 | n+1,f,x=>C7 P C om (rC P C om n) n f x
section
variable {P:Program} {C:eh} {call:FuncId->Ask->Option pf} {ops:List Oper} {slot:Nat} {o:Oper} {st:St} {e:bW} {n0:Nat} {Q:bf->St->Prop}
theorem Fg (bY:∀f x y,call f x=some y->kH P f x y) (h:MT C call ops slot o st=some e) {k:bW->Prop} (hk:k e):fw P C ops slot o st k:=by
 unfold MT at h;unfold fw;split at h
 ·cases h
 ·rename_i hw;cases h;simp only[hw];exact hk
 ·rename_i hw
  simp only[hw];split at h
  ·rename_i f args argTypes eJ
   split at h
   ·cases h
   ·rename_i sS bI hc
    split at h
    ·rename_i n0 YO OJ
     split at h
     ·cases h
     ·rename_i ids s hp
      split at h
      ·rename_i s' hr
       rw[eJ]at h;simp only[eJ,hc,OJ,hp];exact⟨s',bY _ _ _ hr,by simp only[h];exact hk⟩
      ·cases h
    ·rename_i MH
     split at h
     ·cases h
     ·rename_i as marks dQ hp
      split at h
      ·rename_i res hr
       simp only[eJ,hc,hp];exact⟨res,bY _ _ _ hr,by simp only[h];exact hk⟩
      ·cases h
  ·rename_i hn
   split
   ·rename_i eJ
    exact absurd eJ (hn _ _ _)
   ·simp only[h];exact hk
theorem kg (bY:∀f x y,call f x=some y->kH P f x y):∀(os:List Oper) (slot:Nat) (st:St) (tr:List bW) {aS:List bW} {s:St} {k:List bW->St->Prop},
  rB C call ops os slot st tr=some (aS,s)->k aS s->wM P C ops os slot st tr k
 | [],slot,st,tr,aS,s,k,h,hk=>by simp only[rB,Option.some.injEq,Prod.mk.injEq]at h;obtain⟨rfl,rfl⟩:=h;exact hk
 | o::os,slot,st,tr,aS,s,k,h,hk=>by
  unfold rB at h;split at h
  ·rename_i e he
   exact Fg bY he (kg bY os _ _ _ h hk)
  ·cases h
theorem gL (hC:bq P C) (eS:P.follows .mixedOrders=true) (bY:∀f x y,call f x=some y->kH P f x y) :
  ∀(n:Nat) (c:Code) (st:St) {x:bf} {s:St} {Q:bf->St->Prop},dT C call n c st=some (x,s)->Q x s->dH P n0 c st Q:=by
 intro n
 induction n using Nat.strongRecOn with
 | _ n ih=>
  intro c st x s Q h hQ;cases n with
  | zero=>cases h
  | succ n=>
   cases c with
   | skip=>cases h;exact .skip hQ
   | ret=>cases h;exact .ret hQ
   | exit id=>cases h;exact .exit hQ
   | seq x y=>
    simp only[dT]at h;refine .seq ?_;split at h
    ·rename_i s1 h1
     exact ih n (Nat.lt_succ_self n) _ _ h1 (ih n (Nat.lt_succ_self n) _ _ h hQ)
    ·rename_i r hr
     refine ih n (Nat.lt_succ_self n) _ _ h ?_;unfold Wf;split
     ·exact absurd h (hr _)
     ·exact hQ
   | region id ops draw=>
    simp only[dT]at h;split at h
    ·rename_i aS s1 h1
     split at h
     ·rename_i hd
      cases h;cases draw with
      | false=>exact .region hC (kg bY _ _ _ _ h1 hQ)
      | true=>
       simp only[Bool.not_true,Bool.false_or,Bool.and_eq_true]at hd;exact .draw hC eS (kg bY _ _ _ _ h1 ⟨AO hd.1 hd.2,hQ⟩)
     ·cases h
    ·cases h
   | cond c x y=>
    simp only[dT]at h;split at h
    ·rename_i hb
     exact .cond hb (ih n (Nat.lt_succ_self n) _ _ h hQ)
    ·rename_i hb
     exact .cond hb (ih n (Nat.lt_succ_self n) _ _ h hQ)
    ·cases h
   | block id c=>
    simp only[dT]at h;refine .block ?_;split at h
    ·rename_i Ej s1 h1
     refine ih n (Nat.lt_succ_self n) _ _ h1 ?_;unfold CR;split at h
     ·rename_i Ki;cases h;simp only[Ki,if_true];exact hQ
     ·rename_i Ki;cases h;simp only[Ki,if_false];exact hQ
    ·rename_i r hr
     refine ih n (Nat.lt_succ_self n) _ _ h ?_;unfold CR;split
     ·exact absurd h (hr _ _)
     ·exact hQ
   | loop c=>
    refine dH.loop (fun m s'=>m<=n+1/\dT C call m (.loop c) s'=some (x,s)) (fun m s' ⟨hm,hs⟩=>?_) (n:=n+1) ⟨Nat.le_refl _,h⟩;cases m with
    | zero=>cases hs
    | succ m=>
     simp only[dT]at hs;split at hs
     ·rename_i s1 h1
      exact ih m (by omega) _ _ h1 ⟨m,Nat.lt_succ_self m,by omega,hs⟩
     ·rename_i r hr
      refine ih m (by omega) _ _ hs ?_;unfold Rm;split
      ·exact absurd hs (hr _)
      ·exact hQ
   | _=>cases h
theorem Cell.np {ids:List Nat} {c:Cell} (h:c.fu ids=true):(c.ay fun b=>posOf b ids).ay (fun k=>ids.getD k 0)=c:=by
 have key:∀b,ids.contains b=true->ids.getD (posOf b ids) 0=b:=fun b hb=>(nh (List.contains_iff_mem.1 hb)).2
 cases c with
 | t x=>rfl
 | ptr b r c=>simp only[Cell.ay];rw[key _ h]
 | tp row c=>rfl
 | sl b off len cp=>simp only[Cell.ay];rw[key _ h]
 | mp b=>simp only[Cell.ay];rw[key _ h]
 | dy f aK=>
  simp only[Cell.ay,List.map_map,Cell.dy.injEq,true_and];refine(List.map_congr_left fun p hp=>?_).trans (List.map_id _);simp only[Function.comp];rw[key _ (List.all_eq_true.1 h p hp)];rfl
theorem AV.np {ids:List Nat} {x:AV} (h:x.fu ids=true):(x.ay fun b=>posOf b ids).ay (fun k=>ids.getD k 0)=x/\(x.ay fun b=>posOf b ids).aI:=by
 cases x with
 | c x=>exact⟨by simp only[AV.ay];rw[Cell.np h],trivial⟩
 | agg l=>
  refine⟨?_,trivial⟩;simp only[AV.ay,List.map_map,AV.agg.injEq];exact(List.map_congr_left fun c hc=>Cell.np (List.all_eq_true.1 h c hc)).trans (List.map_id _)
 | pD l=>cases h
 | af=>exact⟨rfl,trivial⟩
theorem Cell.tA {ids:List Nat} {c:Cell} (h:c.fu ids=true):(c.ay fun b=>posOf b ids).aM ids.length=true:=by
 have key:∀b,ids.contains b=true->posOf b ids<ids.length:=fun b hb=>(nh (List.contains_iff_mem.1 hb)).1
 cases c with
 | t x=>rfl
 | ptr b r c=>exact decide_eq_true (key _ h)
 | tp row c=>rfl
 | sl b off len cp=>exact decide_eq_true (key _ h)
 | mp b=>exact decide_eq_true (key _ h)
 | dy f aK=>
  refine List.all_eq_true.2 fun p hp=>?_
  obtain⟨q,hq,rfl⟩:=List.mem_map.1 hp;exact decide_eq_true (key _ (List.all_eq_true.1 h q hq))
theorem C8 {n:Nat} {heap:bM} {bI:List AV} {s':St} (h:C6 n heap bI=some s') :
  ∃ρ,(St.mk bI heap).Ek n ρ s'/\s'.aM=true/\n<=s'.heap.length:=by
 simp only[C6]at h;split at h
 ·rename_i hc
  cases h;generalize Ff n heap bI=ids at hc;unfold Ji at hc;simp only[Bool.and_eq_true,decide_eq_true_eq]at hc;obtain⟨⟨⟨⟨h1,h2⟩,h3⟩,h4⟩,h5⟩:=hc;have ha:∀x∈bI,x.fu ids=true:=List.all_eq_true.1 h4;have hb:∀b∈ids,∀au,look heap b=some au->(au.ay fun b=>posOf b ids).ay (fun k=>ids.getD k 0)=au/\(au.ay fun b=>posOf b ids).aM ids.length=true:=by
   intro b MD au hl;cases au with
   | var cells=>
    have:=List.all_eq_true.1 h5 b MD;rw[hl]at this;refine⟨?_,?_⟩
    ·simp only[aC.ay,List.map_map,aC.var.injEq]
     exact(List.map_congr_left fun c hc=>Cell.np (List.all_eq_true.1 this c hc)).trans (List.map_id _)
    ·refine List.all_eq_true.2 fun c hc=>?_
     obtain⟨c0,Wl,rfl⟩:=List.mem_map.1 hc;exact Cell.tA (List.all_eq_true.1 this c0 Wl)
   | rows=>exact⟨rfl,rfl⟩
   | map=>exact⟨rfl,rfl⟩
   | gB=>exact⟨rfl,rfl⟩
  refine⟨fun k=>ids.getD k 0,⟨by simp[eR],fun i x hi=>?_,fun b au gT=>?_,fun b b' au db mO mX he=>?_,fun b UO=>?_⟩,?_,by simpa[eR]using h2⟩
  ·simp only[eR,List.getElem?_map]at hi
   obtain⟨x0,e1,rfl⟩:=Option.map_eq_some_iff.1 hi;obtain⟨e2,e3⟩:=AV.np (ha x0 (List.mem_of_getElem? e1));exact .inr ⟨e3,by rw[e2];exact e1⟩
  ·obtain⟨bG,b0,e1,rfl⟩:=g9 gT
   rw[(hb _ (iK bG) b0 e1).1];exact e1
  ·obtain⟨bG,_⟩:=g9 mO
   obtain⟨tc,_⟩:=g9 mX;exact getD_inj h3 bG tc he
  ·have:ids[b]?=some b:=by
    rw[<-List.getElem?_take_of_lt UO,h1,List.getElem?_range UO]
   rw[List.getD_eq_getElem?_getD,this];rfl
  ·simp only[St.aM,eR,Bool.and_eq_true,List.length_map]
   refine⟨List.all_eq_true.2 fun x hx=>?_,List.all_eq_true.2 fun o ho=>?_⟩
   ·obtain⟨x0,Ku,rfl⟩:=List.mem_map.1 hx
    have:=ha x0 Ku;cases x0 with
    | c c=>exact Cell.tA this
    | agg l=>
     refine List.all_eq_true.2 fun c hc=>?_
     obtain⟨c0,Wl,rfl⟩:=List.mem_map.1 hc;exact Cell.tA (List.all_eq_true.1 this c0 Wl)
    | pD l=>cases this
    | af=>rfl
   ·obtain⟨b,MD,rfl⟩:=List.mem_map.1 ho
    cases hl:look heap b with
    | none=>rfl
    | some au=>exact(hb b MD au hl).2
 ·cases h
theorem yD {om:FuncId->List Mode} (hC:bq P C) (eS:P.follows .mixedOrders=true) (bY:∀f x y,call f x=some y->kH P f x y) {n:Nat} {f:FuncId} {x:Ask} {y:pf} (h:C7 P C om call n f x=some y):kH P f x y:=by
 unfold C7 at h;split at h
 ·rename_i fn jm
  split at h
  ·cases h
  ·rename_i fb
   split at h
   ·rename_i c dB
    cases x with
    | a args=>
     simp only at h;split at h
     ·rename_i s h1
      obtain⟨r,h2,rfl⟩:=Option.map_eq_some_iff.1 h;exact ah.wZ hC jm (by simpa using fb) dB (om:=om f) (gL hC eS bY n c _ h1 ⟨.inl rfl,h2⟩)
     ·rename_i s h1
      obtain⟨r,h2,rfl⟩:=Option.map_eq_some_iff.1 h;exact ah.wZ hC jm (by simpa using fb) dB (om:=om f) (gL hC eS bY n c _ h1 ⟨.inr rfl,h2⟩)
     ·cases h
    | h s0=>
     have key:∀(e:bf) (s s':St),(e=.normal∨e=.ret)->vH C s0.heap.length s fn.results.toList=some s'->(e=.normal∨e=.ret)/\∃bI ρ,fn.results.toList.mapM (gn C s)=some bI/\(St.mk bI s.heap).Ek s0.heap.length ρ s'/\s'.aM=true/\s0.heap.length<=s'.heap.length:=by
      intro e s s' he h2;unfold vH at h2;split at h2
      ·cases h2
      ·rename_i bI eI
       obtain⟨ρ,q1,q2,q3⟩:=C8 h2;exact⟨he,bI,ρ,eI,q1,q2,q3⟩
     simp only at h;split at h
     ·rename_i s h1
      obtain⟨r,h2,rfl⟩:=Option.map_eq_some_iff.1 h;exact eY.rk hC jm (by simpa using fb) dB (gL hC eS bY n c _ h1 (key _ _ _ (.inl rfl) h2))
     ·rename_i s h1
      obtain⟨r,h2,rfl⟩:=Option.map_eq_some_iff.1 h;exact eY.rk hC jm (by simpa using fb) dB (gL hC eS bY n c _ h1 (key _ _ _ (.inr rfl) h2))
     ·cases h
   ·cases h
 ·cases h
theorem gM {om:FuncId->List Mode} (hC:bq P C) (eS:P.follows .mixedOrders=true):∀(n:Nat) (f:FuncId) (x:Ask) (y:pf),rC P C om n f x=some y->kH P f x y
 | 0,f,x,y,h=>by cases h
 | n+1,f,x,y,h=>yD hC eS (gM hC eS n) h
end
def S5 (P:Program) (l:List (FuncId×List Mode)) (f:FuncId):List Mode:=
 match l.find? (fun p=>p.1==f) with
 | some p=>p.2
 | none=>match P.funcs[f]? with
  | some fn=>List.replicate fn.results.size .val
  | none=>[]
def rD (P:Program) (n0:Nat) (c:Code) (st:St) (Q:bf->St->Prop):Prop:=dH P n0 (.loop c) st Q
def fx (P:Program) (C:eh) (n0:Nat):Code->St->(bf->St->Prop)->Prop
 | .skip,st,Q=>Q .normal st
 | .ret,st,Q=>Q .ret st
 | .exit id,st,Q=>Q (.exit id) st
 | .seq x y,st,Q=>fx P C n0 x st fun e s=>match e with
  | .normal=>fx P C n0 y s Q
  | .exit id=>Q (.exit id) s
  | .ret=>Q .ret s
 | .region _ ops draw,st,Q=>wM P C ops.toList ops.toList st.heap.length (st.ext (bB C ops.toList)) [] fun aS tu=>match draw with
  | false=>Q .normal tu
  | true=>match Fe ops.toList&&AN ops.toList aS with
   | true=>Q .normal tu
   | false=>False
 | .cond c x y,st,Q=>match(st.get c).bool? with
  | some true=>fx P C n0 x st Q
  | some false=>fx P C n0 y st Q
  | none=>False
 | .block id c,st,Q=>fx P C n0 c st fun e s=>match e with
  | .normal=>Q .normal s
  | .exit Ej=>if Ej=id then Q .normal s else Q (.exit Ej) s
  | .ret=>Q .ret s
 | .loop c,st,Q=>rD P n0 c st Q
 | _,_,_=>False
section
variable {P:Program} {C:eh} {ops:List Oper} {slot:Nat} {o:Oper} {st:St} {e:bW} {n0:Nat}
theorem xa {k k':bW->Prop} (h:fw P C ops slot o st k) (hk:∀e,k e->k' e):fw P C ops slot o st k':=by
 unfold fw at h ⊢;split at h
 ·exact h.elim
 ·exact hk _ h
 ·split at h
  ·split at h
   ·exact h.elim
   ·split at h
    ·split at h
     ·exact h.elim
     ·obtain⟨s',h1,h2⟩:=h
      refine⟨s',h1,?_⟩;split at h2
      ·exact hk _ h2
      ·exact h2.elim
    ·split at h
     ·exact h.elim
     ·obtain⟨res,h1,h2⟩:=h
      refine⟨res,h1,?_⟩;split at h2
      ·exact hk _ h2
      ·exact h2.elim
  ·split at h
   ·exact hk _ h
   ·exact h.elim
theorem ou:∀(os:List Oper) (slot:Nat) (st:St) (tr:List bW) {k k':List bW->St->Prop},wM P C ops os slot st tr k->(∀t s,k t s->k' t s)->wM P C ops os slot st tr k'
 | [],slot,st,tr,k,k',h,hk=>hk _ _ h
 | o::os,slot,st,tr,k,k',h,hk=>xa h fun e he=>ou os _ _ _ he hk
theorem fx.run (hC:bq P C) (eS:P.follows .mixedOrders=true):∀(c:Code) (st:St) (Q:bf->St->Prop),fx P C n0 c st Q->dH P n0 c st Q:=by
 intro c
 induction c with
 | skip=>intro st Q h;exact .skip h
 | ret=>intro st Q h;exact .ret h
 | exit id=>intro st Q h;exact .exit h
 | seq x y Fh Fi=>
  intro st Q h;refine .seq ((Fh st _ h).mono fun e s hs=>?_);cases e with
  | normal=>exact Fi s _ hs
  | exit id=>exact hs
  | ret=>exact hs
 | region id ops draw=>
  intro st Q h;cases draw with
  | false=>exact .region hC h
  | true=>
   refine .draw hC eS (ou _ _ _ _ h fun t s hs=>?_);simp only at hs;split at hs
   ·rename_i hd
    rw[Bool.and_eq_true]at hd;exact⟨AO hd.1 hd.2,hs⟩
   ·exact hs.elim
 | cond c x y Fh Fi=>
  intro st Q h;unfold fx at h;split at h
  ·rename_i hb;exact .cond hb (Fh st Q h)
  ·rename_i hb;exact .cond hb (Fi st Q h)
  ·exact h.elim
 | block id c ih=>
  intro st Q h;refine .block ((ih st _ h).mono fun e s hs=>?_);cases e<;>exact hs
 | loop c ih=>intro st Q h;exact h
 | _=>intros;rename_i h;exact False.elim h
theorem dH.Fj {c:Code} {Q:bf->St->Prop} (h:dH P n0 c st fun e s=>Q e s∨∃s',s.Le s'/\s'.aM=true/\n0<=s'.heap.length/\Q e s'):dH P n0 c st Q:=fun K hn β S a w hs=>
 wp_mono (h K hn β S a w hs) fun e a' w' ⟨x,s,h1,h2,β',S',h5⟩=>by
  rcases h2 with h2|⟨s',h2,h3,hk,h4⟩
  ·exact⟨x,s,h1,h2,β',S',h5⟩
  ·exact⟨x,s',h1,h4,_,S',h5.weaken h2 h3 fun i R hi=>Nat.lt_of_lt_of_le (hn i R hi) hk⟩
theorem rD.intro (hC:bq P C) (eS:P.follows .mixedOrders=true) {c:Code} {Q:bf->St->Prop} (I:Nat->St->Prop) {n:Nat} {s0:St} (hl:st.Le s0) (hb:s0.aM=true) (hk:n0<=s0.heap.length) (h0:I n s0)
  (round:∀n s,I n s->fx P C n0 c s fun e s=>match e with
   | .normal=>∃s',s.Le s'/\s'.aM=true/\n0<=s'.heap.length/\∃m,m<n/\I m s'
   | .exit id=>Q (.exit id) s
   | .ret=>Q .ret s):rD P n0 c st Q:=by
 refine dH.weaken hl hb hk (dH.loop I (fun n s hI=>dH.Fj ((fx.run hC eS c s _ (round n s hI)).mono fun e s1 h1=>?_)) h0);cases e with
 | normal=>
  obtain⟨s',h2,h3,h4,m,h5,h6⟩:=h1;exact .inr ⟨s',h2,h3,h4,m,h5,h6⟩
 | exit id=>exact .inl h1
 | ret=>exact .inl h1
def dO:List AV->List AV->Prop
 | [],[]=>True
 | x::xs,y::ys=>(y=.af∨y=x)/\dO xs ys
 | _,_=>False
def dP:bM->bM->Prop
 | _,[]=>True
 | x::xs,y::ys=>(y=none∨y=x)/\dP xs ys
 | _,_=>False
theorem xb:∀ {xs ys:List AV},dO xs ys->ys.length=xs.length/\∀(i:Nat) (y:AV),ys[i]?=some y->y=.af∨xs[i]?=some y
 | [],[],_=>⟨rfl,by simp⟩
 | x::xs,y::ys,h=>by
  obtain⟨h1,h2⟩:=h;obtain⟨h3,h4⟩:=xb h2;refine⟨by simp[h3],fun i z hz=>?_⟩;cases i with
  | zero=>simp at hz;subst hz;rcases h1 with h|h;exact .inl h;exact .inr (by simp[h])
  | succ i=>simpa using h4 i z (by simpa using hz)
theorem xd:∀ {xs ys:bM},dP xs ys->ys.length<=xs.length/\∀(i:Nat) (b:aC),look ys i=some b->look xs i=some b
 | xs,[],_=>⟨by simp,fun i b hb=>by simp[look]at hb⟩
 | x::xs,y::ys,h=>by
  obtain⟨h1,h2⟩:=h;obtain⟨h3,h4⟩:=xd h2;refine⟨by simp[h3],fun i b hb=>?_⟩;cases i with
  | zero=>simp[look]at hb ⊢;subst hb;rcases h1 with h|h;cases h;exact h.symm
  | succ i=>simpa[look]using h4 i b (by simpa[look]using hb)
theorem fi {s s':St} (h1:dO s.tmps s'.tmps) (h2:dP s.heap s'.heap):s.Le s':=
 ⟨(xb h1).1,(xd h2).1,(xb h1).2,(xd h2).2⟩
theorem ah.intro (hC:bq P C) (eS:P.follows .mixedOrders=true) {f:FuncId} {fn:Func} {c:Code} {args:List Arg} {res:mB} (om:List Mode) (jm:P.funcs[f]?=some fn) (fb:(fn.name == "runtime.NumGoroutine")=false) (dB:fn.body=some c)
  (h:fx P C args.length c (fQ args fn.ntmps) fun e s=>match e with
   | .exit _=>False
   | .normal=>finish C s args fn.results.toList om=some res
   | .ret=>finish C s args fn.results.toList om=some res):ah P f args res:=
 ah.rk hC jm fb dB ((fx.run hC eS c _ _ h).mono fun e s hs=>by
  cases e with
  | normal=>exact⟨.inl rfl,hs⟩
  | exit id=>exact hs.elim
  | ret=>exact⟨.inr rfl,hs⟩)
end
abbrev Rows:=List (List Tree)
structure ZI where
 wrap:IntKind->Int->Int
 add:Int->Int->Int
 sub:Int->Int->Int
 mul:Int->Int->Int
 quo:Int->Int->Int
 rem:Int->Int->Int
 shl:IntKind->Int->Int->Int
 shr:IntKind->Int->Int->Int
 kI:IntKind->Int->Int->Int
 fj:IntKind->Int->Int->Int
 MV:IntKind->Int->Int->Int
 Fk:IntKind->Int->Int->Int
 eq:Int->Int->Bool
 ne:Int->Int->Bool
 lt:Int->Int->Bool
 le:Int->Int->Bool
 not:Bool->Bool
 beq:Bool->Bool->Bool
 bne:Bool->Bool->Bool
 max:Int->Int->Int
 min:Int->Int->Int
 nat:Int->Nat
 yF:Int->Nat->Bool
 aB:Nat->Int
 idx:Nat->Int->Nat
 neq:Nat->Nat->Bool
 fH:Nat->Nat->Nat
 Kv:Int->Int->Nat
 cut:Int->Int->Nat->Bool
 room:Nat->Nat->Nat->Bool
 nq:Int->Int->Nat->Bool
 len:Rows->Nat
 nth:Rows->Nat->Option (List Tree)
 Fl:Rows->Nat->List Tree->Rows
 gE:IntKind->Rows->Nat->Bool
 dF:Rows->Nat->Int
 oP:IntKind->Rows->Nat->Int->Rows
 fit:Nat->Nat->Rows->Bool
 part:Rows->Nat->Nat->Rows
 ext:Rows->Nat->Rows->Rows
 yG:Rows->Nat->Rows->Rows
 rep:Nat->List Tree->Rows
 wide:Nat->Rows->Bool
 all:List Bool->Bool
 Py:List (Value×Tree)->Value->Bool
 Fm:List (Value×Tree)->Value->Bool
 Kw:List (Value×Tree)->Value->Tree->List (Value×Tree)
 str:Rows->Option ByteArray
 find:List (Value×Tree)->Value->Option (Option Tree)
def ZI.bV:ZI where
 wrap k n:=k.wrap n
 add a b:=a+b
 sub a b:=a-b
 mul a b:=a*b
 quo a b:=a.tdiv b
 rem a b:=a.tmod b
 shl k a b:=k.wrap (a*2^(Min.min b.toNat k.bits))
 shr k a b:=a.fdiv (2^(Min.min b.toNat k.bits))
 kI k a b:=k.wrap ((BitVec.ofInt k.bits a &&& BitVec.ofInt k.bits b).toNat)
 fj k a b:=k.wrap ((BitVec.ofInt k.bits a ||| BitVec.ofInt k.bits b).toNat)
 MV k a b:=k.wrap ((BitVec.ofInt k.bits a ^^^ BitVec.ofInt k.bits b).toNat)
 Fk k a b:=k.wrap ((BitVec.ofInt k.bits a &&& ~~~ BitVec.ofInt k.bits b).toNat)
 eq a b:=decide (a=b)
 ne a b:=decide (a≠b)
 lt a b:=decide (a<b)
 le a b:=decide (a<=b)
 not b:=!b
 beq a b:=(a==b)
 bne a b:=!(a==b)
 max a b:=if b>a then b else a
 min a b:=if b<a then b else a
 nat a:=a.toNat
 yF a n:=decide (0<=a/\a<n)
 aB n:=n
 idx off a:=off+a.toNat
 neq a b:=decide (a=b)
 fH a b:=a+b
 Kv e l:=e.toNat-l.toNat
 cut l e n:=decide (0<=l/\l<=e/\e<=n)
 room a b bytes:=decide ((a+b)*bytes<=az)
 nq n m bytes:=decide (0<=n/\n<=m/\m*bytes<=az)
 len l:=l.length
 nth l i:=l[i]?
 Fl l i r:=l.set i r
 gE k l i:=match l[i]? with|some [.v (.int k' _)]=>k'==k|_=>false
 dF l i:=match l[i]? with|some [.v (.int _ x)]=>x|_=>0
 oP k l i x:=l.set i [.v (.int k x)]
 fit off n l:=decide (off+n<=l.length)
 part l off n:=(l.drop off).take n
 ext l off new:=l.drop off++new
 yG l off new:=aX l off new
 rep n r:=List.replicate n r
 wide n l:=l.all fun r=>r.length==n
 all l:=l.all id
 Py l k:=match cX k l with
  | some none=>true
  | some (some (.v (.bool _)))=>true
  | _=>false
 Fm l k:=match cX k l with
  | some (some (.v (.bool b)))=>b
  | _=>false
 Kw l k t:=(fV k t l).getD l
 str l:=(dZ l).map fun b=>⟨b.toArray⟩
 find l k:=cX k l
structure Wm (c:Bool) (p:Prop):Prop where
 c:c=true
 p:p
structure Br (b:Bool) (p q:Prop):Prop where
 t:b=true->p
 f:b=false->q
def nr:List Bool->Prop->Prop
 | [],p=>p
 | c::cs,p=>Wm c (nr cs p)
def fE (cs:List Bool):Prop:=∀c∈cs,c=true
theorem OK:∀ {cs:List Bool} {p:Prop},nr cs p->fE cs/\p
 | [],p,h=>⟨by simp[fE],h⟩
 | c::cs,p,h=>by
  obtain⟨h1,h2⟩:=OK h.p;exact⟨by intro x hx;rcases List.mem_cons.1 hx with rfl|hx;exact h.c;exact h1 x hx,h2⟩
abbrev OZ (α:Type):=Option (List Bool×α)
def isConst:Operand->Bool
 | .const _=>true
 | _=>false
section
variable (Z:ZI)
def MW (Pz:Bool) (op:BinOp) (k:IntKind) (a:Int) (k':IntKind) (b:Int):OZ Value:=
 match op with
 | .shl=>match Pz with
  | true=>if b<0 then none else some ([],.int k (Z.shl k a b))
  | false=>some ([Z.le 0 b],.int k (Z.shl k a b))
 | .shr=>match Pz with
  | true=>if b<0 then none else some ([],.int k (Z.shr k a b))
  | false=>some ([Z.le 0 b],.int k (Z.shr k a b))
 | _=>
  if k=k' then
   match op with
   | .add=>some ([],.int k (Z.wrap k (Z.add a b)))
   | .sub=>some ([],.int k (Z.wrap k (Z.sub a b)))
   | .mul=>some ([],.int k (Z.wrap k (Z.mul a b)))
   | .quo=>match Pz with
    | true=>if b=0 then none else some ([],.int k (Z.wrap k (Z.quo a b)))
    | false=>some ([Z.ne b 0],.int k (Z.wrap k (Z.quo a b)))
   | .rem=>match Pz with
    | true=>if b=0 then none else some ([],.int k (Z.rem a b))
    | false=>some ([Z.ne b 0],.int k (Z.rem a b))
   | .and=>some ([],.int k (Z.kI k a b))
   | .or=>some ([],.int k (Z.fj k a b))
   | .xor=>some ([],.int k (Z.MV k a b))
   | .andNot=>some ([],.int k (Z.Fk k a b))
   | .eql=>some ([],.bool (Z.eq a b))
   | .neq=>some ([],.bool (Z.ne a b))
   | .lss=>some ([],.bool (Z.lt a b))
   | .leq=>some ([],.bool (Z.le a b))
   | .gtr=>some ([],.bool (Z.lt b a))
   | .geq=>some ([],.bool (Z.le b a))
   | _=>none
  else none
def S6 (op:UnOp) (x:Value):Option Value:=
 match op,x with
 | .neg,.int k n=>some (.int k (Z.wrap k (Z.sub 0 n)))
 | .not,.bool b=>some (.bool (Z.not b))
 | _,_=>none
end
theorem Kx {Pz : Bool} {op : BinOp} {k k' : IntKind} {a b : Int} {cs : List Bool} {v : Value} (h : MW ZI.bV Pz op k a k' b = some (cs, v)) (hc : fE cs) : J2 op (.int k a) (.int k' b) = some v := by
  unfold MW at h;unfold J2;have e1 : ∀x : Bool, fE [x] -> x = true := fun x hx=> hx x (by simp)
  cases op<;>simp only[ZI.bV]at h ⊢
  case shl=>
    cases Pz<;>simp only at h
    · cases h
      have := e1 _ hc;rw[if_neg (by simpa using this)]
    · split at h
      · cases h
      · rename_i hb;cases h;rw[if_neg hb]
  case shr=>
    cases Pz<;>simp only at h
    · cases h
      have := e1 _ hc;rw[if_neg (by simpa using this)]
    · split at h
      · cases h
      · rename_i hb;cases h;rw[if_neg hb]
  all_goals
    split at h
    · rename_i hk
      subst hk;rw[if_pos rfl]
      first
        | (cases h;done)
        | (cases h;rfl)
        | (cases h;by_cases GO : a = b<;>simp[GO];done)
        | (cases Pz<;>(try simp only at h)
           · cases h
             have := e1 _ hc;rw[if_neg (by simpa using this)]
           · split at h
             · cases h
             · rename_i hb;cases h;rw[if_neg hb])
    · cases h
section
variable (Z:ZI) (C:eh)
def vI (h:Hp):Cell->OZ (Tree×List (Nat×Option aC))
 | .t t=>some ([],t,[])
 | .sl b off len cp=>
  match h b with
  | some (.rows sz rows g _)=>some ([Z.fit off len rows],.aa cp (Z.part rows off len),[(b,some (.rows sz rows g true))])
  | _=>none
 | _=>none
def kJ (h:Hp):List Cell->OZ (List Tree×List (Nat×Option aC))
 | []=>some ([],[],[])
 | c::cs=>
  match vI Z h c with
  | some (o,t,m)=>match kJ h cs with
   | some (os,ts,ms)=>some (o++os,t::ts,m++ms)
   | none=>none
  | none=>none
def lG (h:Hp):AV->OZ (Rows×List Nat)
 | .c (.t (.aa _ rows))=>some ([],rows,[])
 | .c (.sl b off len _)=>
  match h b with
  | some (.rows _ rows _ _)=>some ([Z.fit off len rows],Z.part rows off len,[b])
  | some (.gB _ rows)=>some ([Z.fit off len rows],Z.part rows off len,[b])
  | _=>none
 | .c (.t (.v (.slice _ 0 _)))=>some ([],[],[])
 | _=>none
def tC (ti:TI) (slot:Nat) (h:Hp) (s x:AV):OZ bW:=
 match lG Z h x with
 | none=>match j9 ti slot h s x with
  | some e=>some ([],e)
  | none=>none
 | some (o,new,oM)=>
  match s with
  | .c (.t (.aa true rows))=>
   some (o ++ [Z.not (Z.neq (Z.len new) 0),Z.wide ti.size new,Z.wide ti.size rows,Z.room (Z.len rows) (Z.len new) ti.bytes],
    { val:=.c (.sl slot 0 (Z.fH (Z.len rows) (Z.len new)) false),wr:=[(slot,some (.rows ti.size (Z.ext rows 0 new) true false))],rd:=oM })
  | .c (.sl b off len false)=>
   match h b with
   | some (.rows sz rows true fz)=>
    if sz=ti.size then
     some (o ++ [Z.not (Z.neq (Z.len new) 0),Z.wide ti.size new,Z.room len (Z.len new) ti.bytes,Z.neq (Z.fH off len) (Z.len rows)],
      { val:=.c (.sl slot 0 (Z.fH len (Z.len new)) false),wr:=[(b,Ev sz rows fz),(slot,some (.rows sz (Z.ext rows off new) true fz))],rd:=b::oM })
    else none
   | _=>none
  | .c (.sl b off len true)=>
   match h b with
   | some (.rows sz rows g fz)=>
    if sz=ti.size then
     some (o ++ [Z.not (Z.neq (Z.len new) 0),Z.wide ti.size new,Z.room len (Z.len new) ti.bytes,Z.fit off len rows],
      { val:=.c (.sl slot 0 (Z.fH len (Z.len new)) false),wr:=[(slot,some (.rows ti.size (Z.ext (Z.part rows off len) 0 new) true false))],rd:=b::oM })
    else none
   | _=>none
  | _=>none
def HC (ti:TI) (slot:Nat) (h:Hp) (s:AV) (o:List Bool) (new:Rows) (oM:List Nat):Option (List Bool×Bool×bW×List Bool×bW):=
 match s with
 | .c (.sl b off len false)=>
  match h b with
  | some (.rows sz rows true false)=>
   if sz=ti.size then
    some (o ++ [Z.not (Z.neq (Z.len new) 0),Z.wide ti.size new,Z.room len (Z.len new) ti.bytes],Z.neq (Z.fH off len) (Z.len rows),
     { val:=.c (.sl slot 0 (Z.fH len (Z.len new)) false),wr:=[(b,Ev sz rows false),(slot,some (.rows sz (Z.ext rows off new) true false))],rd:=b::oM },
     [Z.fit (Z.fH off len) (Z.len new) rows],
     { val:=.c (.sl b off (Z.fH len (Z.len new)) false),wr:=[(b,some (.rows sz (Z.yG rows (Z.fH off len) new) true false))],rd:=b::oM })
   else none
  | _=>none
 | _=>none
def MX (argTypes:Array TypeId):Option TI:=
 match argTypes[0]? with
 | some t=>match C.ty t with
  | some ti=>match ti.kind with
   | .slice e=>C.ty e
   | _=>none
  | none=>none
 | none=>none
def C9 (ti:TI) (h:Hp) (d x:AV):OZ bW:=
 match lG Z h x,d with
 | some (o,src,oM),.c (.sl b off len _)=>
  match h b with
  | some (.rows sz rows g false)=>
   if sz=ti.size then
    some (o ++ [Z.fit off len rows,Z.wide ti.size src,Z.le (Z.aB (Z.len src)) (Z.aB len)],{ val:=dY (.int .i64 (Z.aB (Z.len src))),wr:=[(b,some (.rows sz (Z.yG rows off src) g false))],rd:=b::oM })
   else none
  | _=>none
 | _,_=>none
def HD (h:Hp) (t:TypeId) (x:AV):OZ bW:=
 match C.ty t with
 | none=>none
 | some ti=>
  match ti.kind,x with
  | .slice _,.c (.sl _ _ len _)=>some ([],{ val:=dY (.int .i64 (Z.aB len)) })
  | .slice _,.c (.t (.aa _ rows))=>some ([],{ val:=dY (.int .i64 (Z.aB (Z.len rows))) })
  | _,_=>(oU C h t x).map fun e=>([],e)
def Da (gt:Bool):List AV->OZ bW
 | [.c (.t (.v (.int k a))),.c (.t (.v (.int k' b)))]=>if k=k' then some ([],{ val:=dY (.int k (match gt with|true=>Z.max a b|false=>Z.min a b)) }) else none
 | _=>none
def xe (h:Hp) (t:TypeId) (x:AV) (lo hi mx:Option AV):OZ bW:=
 match C.ty t with
 | none=>none
 | some ti=>
  match ti.kind,x,mx with
  | .slice e,.c (.sl b off len cp),none=>
   match h b,C.ty e with
   | some (.rows sz _ _ _),some te=>
    if sz=te.size then
     match lo,hi with
     | none,none=>some ([],{ val:=.c (.sl b off len cp),rd:=[b] })
     | none,some hv=>match hv.int? with
      | some e'=>some (match cp with
        | true=>[Z.cut 0 e' len,Z.eq e' (Z.aB len)]
        | false=>[Z.cut 0 e' len],{ val:=.c (.sl b off (Z.nat e') cp),rd:=[b] })
      | none=>none
     | some lv,none=>match lv.int? with
      | some l=>some ([Z.cut l (Z.aB len) len],{ val:=.c (.sl b (Z.idx off l) (Z.Kv (Z.aB len) l) cp),rd:=[b] })
      | none=>none
     | some lv,some hv=>match lv.int?,hv.int? with
      | some l,some e'=>some (match cp with
        | true=>[Z.cut l e' len,Z.eq e' (Z.aB len)]
        | false=>[Z.cut l e' len],{ val:=.c (.sl b (Z.idx off l) (Z.Kv e' l) cp),rd:=[b] })
      | _,_=>none
    else none
   | some (.var _),some _=>(dm C h t (.c (.sl b off len cp)) lo hi none).map fun e=>([],e)
   | _,_=>none
  | .slice e,.c (.t (.aa cp rows)),none=>
   match C.ty e with
   | some te=>
    match lo,hi with
    | none,none=>(dm C h t x none none none).map fun e=>([],e)
    | none,some hv=>match hv.int? with
     | some e'=>some ([Z.cut 0 e' (Z.len rows),Z.wide te.size rows],{ val:=.c (.t (.aa (match cp with|true=>Z.eq e' (Z.aB (Z.len rows))|false=>false) (Z.part rows 0 (Z.nat e')))) })
     | none=>none
    | some lv,none=>match lv.int? with
     | some l=>some ([Z.cut l (Z.aB (Z.len rows)) (Z.len rows),Z.wide te.size rows],{ val:=.c (.t (.aa cp (Z.part rows (Z.nat l) (Z.Kv (Z.aB (Z.len rows)) l)))) })
     | none=>none
    | some lv,some hv=>match lv.int?,hv.int? with
     | some l,some e'=>some ([Z.cut l e' (Z.len rows),Z.wide te.size rows],{ val:=.c (.t (.aa (match cp with|true=>Z.eq e' (Z.aB (Z.len rows))|false=>false) (Z.part rows (Z.nat l) (Z.Kv e' l)))) })
     | _,_=>none
   | none=>none
  | .slice e,.c (.sl b off len cp),some mv=>
   match h b,C.ty e,lo,hi with
   | some (.rows sz _ _ _),some te,none,some hv=>match hv.int?,mv.int? with
    | some e',some m'=>if sz=te.size then some ([Z.cut 0 e' len,Z.eq m' e'],{ val:=.c (.sl b off (Z.nat e') true),rd:=[b] }) else none
    | _,_=>none
   | _,_,_,_=>(dm C h t (.c (.sl b off len cp)) lo hi (some mv)).map fun e=>([],e)
  | _,_,_=>(dm C h t x lo hi mx).map fun e=>([],e)
def qb (h:Hp) (src dst:TypeId) (x:AV):OZ bW:=
 match C.ty src,C.ty dst,x with
 | some ts,some td,.c (.t (.v (.int k0 n)))=>
  match ts.kind,td.kind with
  | .int _,.int k=>some ([],{ val:=dY (.int k (Z.wrap k n)) })
  | _,_=>(eH C h src dst x).map fun e=>([],e)
 | some ts,some td,x=>
  match ts.kind,td.kind with
  | .slice e,.string=>match C.ty e,lG Z h x with
   | some te,some (o,rows,rd)=>match te.kind,Ha x with
    | .int .u8,true=>match Z.str rows with
     | some s=>some (o,{ val:=dY (.string s),rd:=rd })
     | none=>none
    | _,_=>none
   | _,_=>none
  | _,_=>(eH C h src dst x).map fun e=>([],e)
 | _,_,_=>(eH C h src dst x).map fun e=>([],e)
def ox (h:Hp) (size:Nat):List (List Tree)->List (Nat×AV)->OZ (List (List Tree)×List (Nat×Option aC))
 | rows,[]=>some ([],rows,[])
 | rows,(i,v)::rest=>
  match v.cells with
  | some x=>if x.length=size/\i<rows.length then
    match kJ Z h x with
    | some (o,ts,m)=>match ox h size (rows.set i ts) rest with
     | some (os,r,ms)=>some (o++os,r,m++ms)
     | none=>none
    | none=>none
   else none
  | none=>none
def vJ (s:ByteArray):Rows:=s.data.toList.map fun b=>[.v (.int .u8 b.toNat)]
def vK:List Cell->List Cell->Option Bool
 | [],[]=>some true
 | .t (.v (.int k a))::xs,.t (.v (.int k' b))::ys=>if k=k' then(vK xs ys).map fun r=>Z.eq a b&&r else none
 | _,_=>none
def lH (slot : Nat) (σ : Operand -> AV) (h : Hp) : Op -> OZ bW
  | .binOp op t x y t'=> match σ x, σ y with
    | .c (.t (.v (.int k a))), .c (.t (.v (.int k' b)))=> match MW Z (isConst y) op k a k' b with
      | some (o, v)=> some (o, { val := dY v })
      | none=> none
    | .c (.t (.v (.bool a))), .c (.t (.v (.bool b)))=> match C.ty t with
      | some ti=> match ti.kind, op with
        | .bool, .eql=> some ([], { val := dY (.bool (Z.beq a b)) })
        | .bool, .neq=> some ([], { val := dY (.bool (Z.bne a b)) })
        | _, _=> none
      | none=> none
    | .agg a, .agg b=> match vB C op t (vK Z a b) a.length b.length with
      | some e=> some ([], e)
      | none=> (Co C op t a b).map fun e=> ([], e)
    | _, _=> (evalOp C slot σ h (.binOp op t x y t')).map fun e=> ([], e)
  | .unOp op _ x=> match σ x with
    | .c (.t (.v a))=> (S6 Z op a).map fun v=> ([], { val := dY v })
    | _=> none
  | .convert src dst x=> qb Z C h src dst (σ x)
  | .slice t x lo hi mx=> xe Z C h t (σ x) (lo.map σ) (hi.map σ) (mx.map σ)
  | .buildSlice t len parts=> match C.ty t with
    | some ti=> match ti.kind with
      | .slice e=> match C.ty e with
        | some te=> if len * te.size <= 2^24 /\ te.size≠0 then
            match qN C slot t te.size len (parts.toList.map fun p=> (p.1, σ p.2)) with
            | some e=> some ([], e)
            | none=> match ox Z h te.size (List.replicate len te.zero) (parts.toList.map fun p=> (p.1, σ p.2)) with
              | some (o, rows, m)=> some (o, { val := .c (.sl slot 0 len false), wr := m ++ [(slot, some (.rows te.size rows true false))], rd := ids m })
              | none=> none
          else none
        | none=> none
      | _=> none
    | none=> none
  | .load t a=> match C.ty t with
    | some ti=> match σ a with
      | .c (.ptr b r c)=> match h b with
        | some (.rows sz rows _ _)=>
          match ti.kind with
          | .int k=> if sz = 1 /\ c = 0 then some ([Z.gE k rows r], { val := dY (.int k (Z.dF rows r)), rd := [b] }) else none
          | _=> match Z.nth rows r with
            | some row=> (dk ti (row.map .t) c).map fun v=> ([], { val := v, rd := [b] })
            | none=> none
        | _=> (evalOp C slot σ h (.load t a)).map fun e=> ([], e)
      | _=> (evalOp C slot σ h (.load t a)).map fun e=> ([], e)
    | none=> none
  | .store t a x=> match C.ty t, (σ x).cells with
    | some ti, some cs=> match σ a with
      | .c (.ptr b r c)=> match h b with
        | some (.rows sz rows g false)=>
          if cs.length = ti.size then
          match ti.kind, cs with
          | .int k, [.t (.v (.int k' x))]=> if sz = 1 /\ c = 0 /\ k = k' then some ([Z.gE k rows r], { wr := [(b, some (.rows sz (Z.oP k rows r x) g false))], rd := [b] }) else none
          | _, _=> match Z.nth rows r, kJ Z h cs with
            | some row, some (o, ts, m)=> if c + ts.length <= row.length /\ !(ids m).contains b then some (o, { wr := m ++ [(b, some (.rows sz (Z.Fl rows r (aX row c ts)) g false))], rd := b::ids m }) else none
            | _, _=> none
          else none
        | _=> (evalOp C slot σ h (.store t a x)).map fun e=> ([], e)
      | _=> (evalOp C slot σ h (.store t a x)).map fun e=> ([], e)
    | _, _=> none
  | .makeSlice t l c=> match C.cs t with
   | true=> match C.ty t with
    | some ti=> match ti.kind with
      | .slice e=> match C.ty e, (σ l).int?, (σ c).int? with
        | some te, some n, some m=> match te.zero with
          | [z]=> if 1 <= te.bytes /\ te.size≠0 then
              some ([Z.nq n m te.bytes], { val := .c (.sl slot 0 (Z.nat n) false), wr := [(slot, some (.var (List.replicate (Z.nat n) (.t z))))] }) else none
          | _=> none
        | _, _, _=> none
      | _=> none
    | none=> none
   | false=> match C.ty t with
    | some ti=> match ti.kind with
      | .slice e=> match C.ty e, (σ l).int?, (σ c).int? with
        | some te, some n, some m=> if 1 <= te.bytes /\ te.size≠0 then
            some ([Z.nq n m te.bytes], { val := .c (.sl slot 0 (Z.nat n) false), wr := [(slot, some (.rows te.size (Z.rep (Z.nat n) te.zero) true false))] }) else none
        | _, _, _=> none
      | _=> none
    | none=> none
  | .indexAddr t x i=> match C.ty t, (σ i).int? with
    | some ti, some n=> match ti.kind with
      | .slice e=> match C.ty e with
        | some te=> match σ x with
          | .c (.sl b off len _)=> match h b with
            | some (.rows sz _ _ _)=> if sz = te.size then
                some ([Z.yF n len], { val := .c (.ptr b (Z.idx off n) 0), rd := [b] }) else none
            | some (.var _)=> (evalOp C slot σ h (.indexAddr t x i)).map fun e=> ([], e)
            | _=> none
          | .c (.t (.aa _ rows))=>
            match te.kind with
            | .int k=> if te.size = 1 then some ([Z.le 0 n, Z.gE k rows (Z.nat n)], { val := .c (.tp [.v (.int k (Z.dF rows (Z.nat n)))] 0) }) else none
            | _=> match Z.nth rows (Z.nat n) with
              | some row=> if row.length = te.size then some ([Z.le 0 n], { val := .c (.tp row 0) }) else none
              | none=> none
          | _=> none
        | none=> none
      | .array len e=> match C.ty e with
        | some te=> match te.kind, σ x with
          | .int .i8, .c (.tp row c)=> if te.size = 1 then some ([Z.yF n len], { val := .c (.tp row (Z.idx c n)) }) else none
          | _, _=> (evalOp C slot σ h (.indexAddr t x i)).map fun e=> ([], e)
        | none=> none
      | _=> (evalOp C slot σ h (.indexAddr t x i)).map fun e=> ([], e)
    | _, _=> none
  | .call { callee := .builtin b, args, argTypes }=>
    match b, args.toList, argTypes[0]? with
    | .len, [x], some t=> HD Z C h t (σ x)
    | .append, [s, x], some t=> match C.ty t with
      | some ti=> match ti.kind with
        | .slice e=> match C.ty e, argTypes[1]? with
          | some te, some t1=> match C.ty t1 with
            | some OW=> match OW.kind with
              | .slice _=> if te.size = 0∨te.bytes = 0 then none else tC Z te slot h (σ s) (σ x)
              | _=> none
            | none=> none
          | _, _=> none
        | _=> none
      | none=> none
    | .copy, [d, x], some t=> match C.ty t with
      | some ti=> match ti.kind with
        | .slice e=> match C.ty e with
          | some te=> if te.size = 0 then none else C9 Z te h (σ d) (σ x)
          | none=> none
        | _=> none
      | none=> none
    | .max, [x, y], _=> Da Z true [σ x, σ y]
    | .min, [x, y], _=> Da Z false [σ x, σ y]
    | _, _, _=> none
  | .index t x i=> match C.ty t, (σ i).int? with
    | some ti, some n=> match ti.kind, σ x with
      | .string, .c (.t (.v (.string s)))=> some ([Z.le 0 n, Z.gE .u8 (vJ s) (Z.nat n)], { val := dY (.int .u8 (Z.dF (vJ s) (Z.nat n))) })
      | _, _=> (evalOp C slot σ h (.index t x i)).map fun e=> ([], e)
    | _, _=> none
  | .lookup t x i ok=> match C.ty t with
    | some ti=> match ti.kind, σ x, σ i with
      | .map k e, .c (.mp b), .c (.t (.v key))=> match h b, C.ty k, C.ty e, ok with
        | some (.map cR), some tk, some te, false=> match te.kind, te.zero, jb tk.kind key with
          | .bool, [.v (.bool false)], true=> some ([Z.Py cR key], { val := dY (.bool (Z.Fm cR key)), rd := [b] })
          | .int _, [z], true=> match Z.find cR key with
            | some (some t)=> some ([], { val := .c (.t t), rd := [b] })
            | some none=> some ([], { val := .c (.t z), rd := [b] })
            | none=> none
          | _, _, _=> (evalOp C slot σ h (.lookup t x i ok)).map fun e=> ([], e)
        | some (.map cR), some tk, some te, true=> match te.kind, te.zero, jb tk.kind key with
          | .int _, [z], true=> match Z.find cR key with
            | some (some t)=> some ([], { val := .pD [.c (.t t), dY (.bool true)], rd := [b] })
            | some none=> some ([], { val := .pD [.c (.t z), dY (.bool false)], rd := [b] })
            | none=> none
          | _, _, _=> (evalOp C slot σ h (.lookup t x i ok)).map fun e=> ([], e)
        | _, _, _, _=> (evalOp C slot σ h (.lookup t x i ok)).map fun e=> ([], e)
      | _, _, _=> none
    | none=> none
  | .mapUpdate t x i v=> match C.ty t with
    | some ti=> match ti.kind, σ x, σ i, σ v with
      | .map k e, .c (.mp b), .c (.t (.v key)), .c (.t (.v (.bool y)))=> match h b, C.ty k, C.ty e with
        | some (.map cR), some tk, some te=> match te.kind, jb tk.kind key with
          | .bool, true=> some ([Z.Py cR key], { wr := [(b, some (.map (Z.Kw cR key (.v (.bool y)))))], rd := [b] })
          | _, _=> (evalOp C slot σ h (.mapUpdate t x i v)).map fun e=> ([], e)
        | _, _, _=> none
      | .map k e, .c (.mp b), .c (.t (.v key)), .c (.t (.v (.int ik y)))=> match h b, C.ty k with
        | some (.map cR), some tk=> match jb tk.kind key, Z.find cR key with
          | true, some _=> some ([], { wr := [(b, some (.map (Z.Kw cR key (.v (.int ik y)))))], rd := [b] })
          | _, _=> none
        | _, _=> none
      | _, _, _, _=> (evalOp C slot σ h (.mapUpdate t x i v)).map fun e=> ([], e)
    | none=> none
  | op=> (evalOp C slot σ h op).map fun e=> ([], e)
end
theorem uI {h:Hp} {c:Cell} {o:List Bool} {t:Tree} {m:List (Nat×Option aC)} (e:vI ZI.bV h c=some (o,t,m)) (ho:fE o):toTree h c=some (t,m):=by
 unfold vI at e;unfold toTree;split at e
 ·cases e;rfl
 ·split at e
  ·rename_i hb
   cases e;have:=ho _ (List.mem_singleton.2 rfl);simp only[hb];rw[if_pos (by simpa[ZI.bV]using this)];rfl
  ·cases e
 ·cases e
theorem fM {a b:List Bool} (h:fE (a++b)):fE a/\fE b:=
 ⟨fun x hx=>h x (List.mem_append_left _ hx),fun x hx=>h x (List.mem_append_right _ hx)⟩
theorem jd {h:Hp}:∀ {cs:List Cell} {o:List Bool} {ts:List Tree} {m:List (Nat×Option aC)},kJ ZI.bV h cs=some (o,ts,m)->fE o->bL h cs=some (ts,m)
 | [],o,ts,m,e,ho=>by cases e;rfl
 | c::cs,o,ts,m,e,ho=>by
  unfold kJ at e;split at e
  ·rename_i o1 t1 m1 h1
   split at e
   ·rename_i os1 ts1 ms1 h2
    cases e;obtain⟨a,b⟩:=fM ho;unfold bL;rw[uI h1 a,jd h2 b]
   ·cases e
  ·cases e
theorem Ro {h:Hp} {x:AV} {o:List Bool} {r:Rows} {rd:List Nat} (e:lG ZI.bV h x=some (o,r,rd)) (ho:fE o):rowsOf h x=some (r,rd):=by
 unfold lG at e;unfold rowsOf;split at e
 ·cases e;rfl
 ·split at e
  ·rename_i hb
   cases e;have:=ho _ (List.mem_singleton.2 rfl);simp only[hb];rw[if_pos (by simpa[ZI.bV]using this)];rfl
  ·rename_i hb
   cases e;have:=ho _ (List.mem_singleton.2 rfl);simp only[hb];rw[if_pos (by simpa[ZI.bV]using this)];rfl
  ·cases e
 ·cases e;rfl
 ·cases e
theorem yH {ti:TI} {slot:Nat} {h:Hp} {s x:AV} {o:List Bool} {e:bW} (he:tC ZI.bV ti slot h s x=some (o,e)) (ho:fE o):bU ti slot h s x=some e:=by
 unfold tC at he;unfold bU;split at he
 ·split at he
  ·rename_i e1 h1
   cases he;rw[ux h1];exact h1
  ·cases he
 ·rename_i o1 new oM hx
  split at he
  ·rename_i rows
   cases he;obtain⟨a,b⟩:=fM ho;rw[Ro hx a];simp only[fE,ZI.bV,List.mem_cons,List.not_mem_nil,or_false,forall_eq_or_imp,forall_eq,Bool.not_eq_true',decide_eq_true_eq,decide_eq_false_iff_not]at b;obtain⟨b1,b2,b3,b4⟩:=b;simp only[ZI.bV];rw[if_neg b1,b2];simp only[Bool.not_true,Bool.false_eq_true,if_false,b3,Bool.true_and,decide_eq_true_eq,b4,if_true];simp
  ·rename_i b off len
   split at he
   ·rename_i sz rows fz hb
    split at he
    ·rename_i dS
     cases he;obtain⟨a,c⟩:=fM ho;rw[Ro hx a];simp only[fE,ZI.bV,List.mem_cons,List.not_mem_nil,or_false,forall_eq_or_imp,forall_eq,Bool.not_eq_true',decide_eq_true_eq,decide_eq_false_iff_not]at c;obtain⟨b1,b2,b3,b4⟩:=c;simp only[ZI.bV];rw[if_neg b1,b2];simp only[Bool.not_true,Bool.false_eq_true,if_false,hb];rw[if_neg (fun hn=>hn ⟨dS,b3,by omega⟩),if_pos b4];simp
    ·cases he
   ·cases he
  ·rename_i b off len
   split at he
   ·rename_i sz rows g fz hb
    split at he
    ·rename_i dS
     cases he;obtain⟨a,c⟩:=fM ho;rw[Ro hx a];simp only[fE,ZI.bV,List.mem_cons,List.not_mem_nil,or_false,forall_eq_or_imp,forall_eq,Bool.not_eq_true',decide_eq_true_eq,decide_eq_false_iff_not]at c;obtain⟨b1,b2,b3,b4⟩:=c;simp only[ZI.bV];rw[if_neg b1,b2];simp only[Bool.not_true,Bool.false_eq_true,if_false,hb];rw[if_neg (fun hn=>hn ⟨dS,b3,b4⟩)];simp
    ·cases he
   ·cases he
  ·cases he
theorem HE {ti:TI} {slot:Nat} {h:Hp} {s x:AV} {o oc Wn:List Bool} {new:Rows} {oM:List Nat} {c:Bool} {eg e2:bW} (he:HC ZI.bV ti slot h s o new oM=some (oc,c,eg,Wn,e2)) (hx:lG ZI.bV h x=some (o,new,oM)) (ho:fE oc) :
  (c=true->bU ti slot h s x=some eg)/\(c=false->fE Wn->bU ti slot h s x=some e2):=by
 unfold HC at he;split at he
 ·rename_i b off len
  split at he
  ·rename_i sz rows hb
   split at he
   ·rename_i dS
    simp only[Option.some.injEq,Prod.mk.injEq]at he;obtain⟨rfl,rfl,rfl,rfl,rfl⟩:=he;obtain⟨a,c⟩:=fM ho;simp only[fE,ZI.bV,List.mem_cons,List.not_mem_nil,or_false,forall_eq_or_imp,forall_eq,Bool.not_eq_true',decide_eq_true_eq,decide_eq_false_iff_not]at c;obtain⟨b1,b2,b3⟩:=c;refine⟨fun b4=>?_,fun b4 b5=>?_⟩
    ·simp only[ZI.bV,decide_eq_true_eq]at b4
     unfold bU;rw[Ro hx a];simp only[ZI.bV];rw[if_neg b1,b2];simp only[Bool.not_true,Bool.false_eq_true,if_false,hb];rw[if_neg (fun hn=>hn ⟨dS,b3,by omega⟩),if_pos b4];simp
    ·simp only[ZI.bV,decide_eq_false_iff_not]at b4
     simp only[fE,ZI.bV,List.mem_cons,List.not_mem_nil,or_false,forall_eq,decide_eq_true_eq]at b5;unfold bU;rw[Ro hx a];simp only[ZI.bV];rw[if_neg b1,b2];simp only[Bool.not_true,Bool.false_eq_true,if_false,hb];rw[if_neg (fun hn=>hn ⟨dS,b3,by omega⟩),if_neg b4,if_pos ⟨b5,trivial⟩]
   ·cases he
  ·cases he
 ·cases he
theorem Fo {ti:TI} {h:Hp} {d x:AV} {o:List Bool} {e:bW} (he:C9 ZI.bV ti h d x=some (o,e)) (ho:fE o):lf ti h d x=some e:=by
 unfold C9 at he;unfold lf;split at he
 ·rename_i o1 src oM b off len cp hx
  split at he
  ·rename_i sz rows g hb
   split at he
   ·rename_i dS
    cases he;obtain⟨a,c⟩:=fM ho;rw[Ro hx a];simp only[fE,ZI.bV,List.mem_cons,List.not_mem_nil,or_false,forall_eq_or_imp,forall_eq,decide_eq_true_eq]at c;obtain⟨b1,b2,b3⟩:=c;have SO:min src.length len=src.length:=by omega
    simp only[ZI.bV,hb];rw[if_pos ⟨b1,b2,dS⟩,SO];simp
   ·cases he
  ·cases he
 ·cases he
theorem HF {C:eh} {h:Hp} {t:TypeId} {x:AV} {o:List Bool} {e:bW} (he:HD ZI.bV C h t x=some (o,e)):oU C h t x=some e:=by
 unfold HD at he;split at he
 ·cases he
 ·rename_i ti bZ
  split at he
  ·rename_i hk;cases he;simp only[oU,bZ,hk];rfl
  ·rename_i hk;cases he;simp only[oU,bZ,hk];rfl
  ·obtain⟨e',h1,h2⟩:=Option.map_eq_some_iff.1 he
   cases h2;exact h1
theorem xf {gt:Bool} {l:List AV} {o:List Bool} {e:bW} (he:Da ZI.bV gt l=some (o,e)):Ak gt l=some e:=by
 unfold Da at he;unfold Ak;split at he
 ·split at he
  ·rename_i hk
   cases he;simp only[hk,if_true];cases gt<;>rfl
  ·cases he
 ·cases he
theorem iX {a:Bool} (h:fE [a]):a=true:=h a (by simp)
theorem uJ {a b:Bool} (h:fE [a,b]):a=true/\b=true:=⟨h a (by simp),h b (by simp)⟩
theorem Db {C:eh} {h:Hp} {t:TypeId} {x:AV} {lo hi mx:Option AV} {o:List Bool} {e:bW} (he:xe ZI.bV C h t x lo hi mx=some (o,e)) (ho:fE o):dm C h t x lo hi mx=some e:=by
 unfold xe at he;split at he
 ·cases he
 ·rename_i ti bZ
  split at he
  ·rename_i e1 b off len cp hk
   split at he
   ·rename_i sz rows g fz te hb du
    split at he
    ·rename_i dS
     split at he
     ·cases he
      simp only[dm,bZ,hk,hb,du,Option.getD_none];rw[if_pos (by omega),if_pos (by simp[dS])];simp
     ·rename_i hv
      split at he
      ·rename_i e' hint
       cases he;cases cp
       ·have:=iX ho
        simp only[ZI.bV,decide_eq_true_eq]at this;simp only[dm,bZ,hk,hb,du,hint,Option.map_some,Option.getD_some,ZI.bV];rw[if_pos this,if_pos (by simp[dS])];simp
       ·obtain⟨h1,h2⟩:=uJ ho
        simp only[ZI.bV,decide_eq_true_eq]at h1 h2;simp only[dm,bZ,hk,hb,du,hint,Option.map_some,Option.getD_some,ZI.bV];rw[if_pos h1,if_pos (by simp[dS,h2])];simp
      ·cases he
     ·rename_i lv
      split at he
      ·rename_i l hint
       cases he;have:=iX ho;simp only[ZI.bV,decide_eq_true_eq]at this;simp only[dm,bZ,hk,hb,du,hint,Option.getD_none,ZI.bV];rw[if_pos this,if_pos (by simp[dS])]
      ·cases he
     ·rename_i lv hv
      split at he
      ·rename_i l e' hl hint
       cases he;cases cp
       ·have:=iX ho
        simp only[ZI.bV,decide_eq_true_eq]at this;simp only[dm,bZ,hk,hb,du,hl,hint,Option.map_some,Option.getD_some,ZI.bV];rw[if_pos this,if_pos (by simp[dS])]
       ·obtain⟨h1,h2⟩:=uJ ho
        simp only[ZI.bV,decide_eq_true_eq]at h1 h2;simp only[dm,bZ,hk,hb,du,hl,hint,Option.map_some,Option.getD_some,ZI.bV];rw[if_pos h1,if_pos (by simp[dS,h2])]
      ·cases he
    ·cases he
   ·obtain⟨e',h1,h2⟩:=Option.map_eq_some_iff.1 he
    cases h2;exact h1
   ·cases he
  ·rename_i e1 cp rows hk
   split at he
   ·rename_i te du
    split at he
    ·obtain⟨e',h1,h2⟩:=Option.map_eq_some_iff.1 he
     cases h2;exact h1
    ·rename_i hv
     split at he
     ·rename_i e' hint
      cases he;obtain⟨h1,h2⟩:=uJ ho;simp only[ZI.bV,decide_eq_true_eq]at h1 h2;simp only[dm,bZ,hk,du,hint,Option.map_some,Option.getD_some,ZI.bV];rw[if_pos h1,if_pos h2];cases cp<;>simp[Bool.beq_eq_decide_eq]
     ·cases he
    ·rename_i lv
     split at he
     ·rename_i l hint
      cases he;obtain⟨h1,h2⟩:=uJ ho;simp only[ZI.bV,decide_eq_true_eq]at h1 h2;simp only[dm,bZ,hk,du,hint,Option.getD_none,ZI.bV];rw[if_pos h1,if_pos h2];simp
     ·cases he
    ·rename_i lv hv
     split at he
     ·rename_i l e' hl hint
      cases he;obtain⟨h1,h2⟩:=uJ ho;simp only[ZI.bV,decide_eq_true_eq]at h1 h2;simp only[dm,bZ,hk,du,hl,hint,Option.map_some,Option.getD_some,ZI.bV];rw[if_pos h1,if_pos h2];cases cp<;>simp[Bool.beq_eq_decide_eq]
     ·cases he
   ·cases he
  ·rename_i e1 b off len cp mv hk
   split at he
   ·rename_i sz rows g fz te hv hb du
    split at he
    ·rename_i e' m' hint hm
     split at he
     ·rename_i dS
      cases he;obtain⟨h1,h2⟩:=uJ ho;simp only[ZI.bV,decide_eq_true_eq]at h1 h2;simp only[dm,bZ,hk,hb,du,hint,hm,Option.map_some,Option.getD_some,ZI.bV];rw[if_pos h1,if_pos ⟨h2,rfl,dS⟩];simp
     ·cases he
    ·cases he
   ·obtain⟨e',h1,h2⟩:=Option.map_eq_some_iff.1 he
    cases h2;exact h1
  ·obtain⟨e',h1,h2⟩:=Option.map_eq_some_iff.1 he
   cases h2;exact h1
theorem xg {C:eh} {h:Hp} {src dst:TypeId} {x:AV} {o:List Bool} {e:bW} (he:qb ZI.bV C h src dst x=some (o,e)) (ho:fE o):eH C h src dst x=some e:=by
 unfold qb at he;split at he
 ·rename_i ts td k0 n h1 h2
  split at he
  ·rename_i k1 k2 e1 e2
   cases he;simp only[eH,h1,h2,e1,e2];rfl
  ·obtain⟨e',q1,q2⟩:=Option.map_eq_some_iff.1 he
   cases q2;exact q1
 ·rename_i ts td x0 h1 h2 hn
  split at he
  ·rename_i e0 k1 k2
   split at he
   ·rename_i te o2 rows rd du hr
    split at he
    ·rename_i q1 q2
     split at he
     ·rename_i s hs
      cases he;have ym:=Ro hr ho;obtain⟨b,mO,mX⟩:=Option.map_eq_some_iff.1 (show(dZ rows).map _=some s from hs);subst mX;unfold eH;simp only[h1,h2,k1,k2,du,ym,q1,q2,mO]
     ·cases he
    ·cases he
   ·cases he
  ·obtain⟨e',q1,q2⟩:=Option.map_eq_some_iff.1 he
   cases q2;exact q1
 ·obtain⟨e',q1,q2⟩:=Option.map_eq_some_iff.1 he
  cases q2;exact q1
theorem pg {h:Hp} {size:Nat}:∀ {l:List (Nat×AV)} {rows r:List (List Tree)} {o:List Bool} {m:List (Nat×Option aC)},ox ZI.bV h size rows l=some (o,r,m)->fE o->fp h size rows l=some (r,m)
 | [],rows,r,o,m,he,ho=>by cases he;rfl
 | (i,v)::rest,rows,r,o,m,he,ho=>by
  unfold ox at he;unfold fp;split at he
  ·rename_i x hx
   split at he
   ·rename_i hc
    split at he
    ·rename_i o1 ts m1 h1
     split at he
     ·rename_i os r1 ms h2
      cases he;obtain⟨a,b⟩:=fM ho;simp only[hx];rw[if_pos hc,jd h1 a];simp only;rw[pg h2 b]
     ·cases he
    ·cases he
   ·cases he
  ·cases he
theorem nt {k:Value} {t:Tree}:∀ {l:List (Value×Tree)} {r:Option Tree},cX k l=some r->∃l',fV k t l=some l'
 | [],r,h=>⟨_,rfl⟩
 | e::es,r,h=>by
  simp only[cX]at h;simp only[fV];split at h
  ·exact⟨_,rfl⟩
  ·rename_i hk
   obtain⟨l',hl⟩:=nt (t:=t) h;exact⟨_,by rw[hl];rfl⟩
  ·cases h
theorem vL {k:IntKind} {l:Rows} {i:Nat} (h:ZI.bV.gE k l i=true):l[i]?=some [.v (.int k (ZI.bV.dF l i))]:=by
 simp only[ZI.bV]at h ⊢;split at h
 ·rename_i k' x hx
  rw[hx];simp only[beq_iff_eq]at h;subst h;rfl
 ·cases h
theorem Fp:∀(a b:List Cell),vK ZI.bV a b=j8 a b:=by
 intro a
 induction a with
 | nil=>intro b;cases b<;>rfl
 | cons c a ih=>
  intro b;unfold vK j8;split<;>simp_all<;>rfl
theorem nu {C:eh} {slot:Nat} {σ:Operand->AV} {h:Hp} {op:Op} {o:List Bool} {e:bW} (he:lH ZI.bV C slot σ h op=some (o,e)) (ho:fE o):evalOp C slot σ h op=some e:=by
 have oQ:∀ {q:Option bW},(q.map fun e=>(([]:List Bool),e))=some (o,e)->q=some e:=fun {q} hq=>by
  obtain⟨e',h1,h2⟩:=Option.map_eq_some_iff.1 hq;cases h2;exact h1
 unfold lH at he;split at he
 ·rename_i op t x y t'
  split at he
  ·rename_i k a k' b hx hy
   split at he
   ·rename_i o1 v h1
    cases he;simp only[evalOp,hx,hy,Kx h1 ho,Option.map_some]
   ·cases he
  ·rename_i a b hx hy
   split at he
   ·rename_i ti bZ
    split at he
    ·rename_i hk;cases he;simp only[evalOp,hx,hy,bZ,hk];rfl
    ·rename_i hk;cases he;simp only[evalOp,hx,hy,bZ,hk];rfl
    ·cases he
   ·cases he
  ·rename_i a b hx hy
   rw[Fp]at he;simp only[evalOp,hx,hy];split at he
   ·rename_i e1 h1
    cases he;rw[h1]
   ·rename_i h1
    rw[h1];exact oQ he
  ·exact oQ he
 ·rename_i op t x
  split at he
  ·rename_i a hx
   simp only[evalOp,hx];obtain⟨v,h1,h2⟩:=Option.map_eq_some_iff.1 he;cases h2;have:Ys op a=S6 ZI.bV op a:=by unfold Ys S6 ZI.bV;rfl
   rw[this,h1];rfl
  ·cases he
 ·exact xg he ho
 ·exact Db he ho
 ·rename_i t len parts
  simp only[evalOp];split at he
  ·rename_i ti bZ
   split at he
   ·rename_i el hk
    split at he
    ·rename_i te du
     split at he
     ·rename_i hc
      split at he
      ·rename_i e1 h1
       cases he;simp only[bZ,hk,du];rw[if_pos hc,h1]
      ·rename_i h0
       split at he
       ·rename_i o1 rows m h1
        cases he;simp only[bZ,hk,du];rw[if_pos hc,h0,pg h1 ho]
       ·cases he
     ·cases he
    ·cases he
   ·cases he
  ·cases he
 ·rename_i t a
  split at he
  ·rename_i ti bZ
   split at he
   ·rename_i b r c hx
    split at he
    ·rename_i sz rows g fz hb
     split at he
     ·rename_i k hk
      split at he
      ·rename_i hc
       cases he;obtain⟨rfl,rfl⟩:=hc;have:=vL (iX ho);simp only[evalOp,bZ,hx,hb,this,hk,TK.agg,dk];simp[dY]
      ·cases he
     ·split at he
      ·rename_i row da
       have Fq:rows[r]?=some row:=da;simp only[evalOp,bZ,hx,hb,Fq];obtain⟨v,h1,h2⟩:=Option.map_eq_some_iff.1 he;cases h2;rw[h1];rfl
      ·cases he
    ·exact oQ he
   ·exact oQ he
  ·cases he
 ·rename_i t a x
  split at he
  ·rename_i ti cs bZ pF
   split at he
   ·rename_i b r c hx
    split at he
    ·rename_i sz rows g hb
     split at he
     ·rename_i hlen
      split at he
      ·rename_i k k' n hk
       split at he
       ·rename_i hc
        cases he;obtain⟨rfl,rfl,rfl⟩:=hc;have:=vL (iX ho);simp only[evalOp,bZ,pF,hx,hb,this];rw[if_pos hlen];simp only[bL,toTree,List.append_nil];rw[if_pos (by simp[ids])];simp[aX,ids,ZI.bV]
       ·cases he
      ·split at he
       ·rename_i row o1 ts m da h1
        split at he
        ·rename_i hc
         cases he;have Fq:rows[r]?=some row:=da;simp only[evalOp,bZ,pF,hx,hb,Fq,jd h1 ho];rw[if_pos hlen,if_pos hc];rfl
        ·cases he
       ·cases he
     ·cases he
    ·exact oQ he
   ·exact oQ he
  ·cases he
 ·rename_i t l c
  split at he
  ·rename_i pF
   simp only[evalOp];split at he
   ·rename_i ti bZ
    split at he
    ·rename_i el hk
     split at he
     ·rename_i te n m du hn hm
      split at he
      ·rename_i z hz
       split at he
       ·rename_i hc
        cases he;have:=iX ho;simp only[ZI.bV,decide_eq_true_eq]at this;simp only[bZ,hk,du,hn,hm];rw[if_pos ⟨this.1,this.2.1,this.2.2,hc.1,hc.2⟩];simp only[pF,hz];rfl
       ·cases he
      ·cases he
     ·cases he
    ·cases he
   ·cases he
  rename_i pF;simp only[evalOp];split at he
  ·rename_i ti bZ
   split at he
   ·rename_i el hk
    split at he
    ·rename_i te n m du hn hm
     split at he
     ·rename_i hc
      cases he;have:=iX ho;simp only[ZI.bV,decide_eq_true_eq]at this;simp only[bZ,hk,du,hn,hm];rw[if_pos ⟨this.1,this.2.1,this.2.2,hc.1,hc.2⟩];simp only[pF];rfl
     ·cases he
    ·cases he
   ·cases he
  ·cases he
 ·rename_i t x i
  split at he
  ·rename_i ti n bZ hn
   split at he
   ·rename_i el hk
    split at he
    ·rename_i te du
     split at he
     ·rename_i b off len cp hx
      split at he
      ·rename_i sz rows g fz hb
       split at he
       ·rename_i dS
        cases he;have:=iX ho;simp only[ZI.bV,decide_eq_true_eq]at this;simp only[evalOp,bZ,hn,hk,du,hx,hb];rw[if_pos ⟨this.1,this.2,dS⟩];rfl
       ·cases he
      ·exact oQ he
      ·cases he
     ·rename_i cp rows hx
      split at he
      ·rename_i k J9
       split at he
       ·rename_i dS
        cases he;obtain⟨h1,h2⟩:=uJ ho;have I4:=vL h2;simp only[ZI.bV,decide_eq_true_eq]at h1;have abe:rows[n.toNat]?=some [.v (.int k (ZI.bV.dF rows (ZI.bV.nat n)))]:=I4;simp only[evalOp,bZ,hn,hk,du,hx,abe];rw[if_pos h1,if_pos (by simp[dS])]
       ·cases he
      ·split at he
       ·rename_i row da
        split at he
        ·rename_i dS
         cases he;have h1:=iX ho;simp only[ZI.bV,decide_eq_true_eq]at h1;have Fq:rows[n.toNat]?=some row:=da;simp only[evalOp,bZ,hn,hk,du,hx,Fq];rw[if_pos h1,if_pos dS]
        ·cases he
       ·cases he
     ·cases he
    ·cases he
   ·rename_i len el hk
    split at he
    ·rename_i te du
     split at he
     ·rename_i row c J9 hx
      split at he
      ·rename_i dS
       cases he;have:=iX ho;simp only[ZI.bV,decide_eq_true_eq]at this;simp only[evalOp,bZ,hn,hk,du,hx];rw[if_pos ⟨this.1,this.2⟩,dS,Nat.mul_one];rfl
      ·cases he
     ·exact oQ he
    ·cases he
   ·exact oQ he
  ·cases he
 ·rename_i b args argTypes
  simp only[evalOp];split at he
  ·rename_i x t hx ht
   simp only[ht,hx];exact HF he
  ·rename_i s x t hx ht
   simp only[ht,hx];split at he
   ·rename_i ti bZ
    split at he
    ·rename_i el hk
     split at he
     ·rename_i te t1 du yv
      split at he
      ·rename_i OW CM
       split at he
       ·rename_i e1 GS
        split at he
        ·cases he
        ·rename_i hz
         simp only[bZ,hk,du,yv,CM,GS];rw[if_neg hz];exact yH he ho
       ·cases he
      ·cases he
     ·cases he
    ·cases he
   ·cases he
  ·rename_i d x t hx ht
   simp only[ht,hx];split at he
   ·rename_i ti bZ
    split at he
    ·rename_i el hk
     split at he
     ·rename_i te du
      split at he
      ·cases he
      ·rename_i hz
       simp only[bZ,hk,du];rw[if_neg hz];exact Fo he ho
     ·cases he
    ·cases he
   ·cases he
  ·rename_i x y hx
   simp only[hx];exact xf he
  ·rename_i x y hx
   simp only[hx];exact xf he
  ·cases he
 ·rename_i t x i
  split at he
  ·rename_i ti n bZ hn
   split at he
   ·rename_i s hk hx
    cases he;obtain⟨h1,h2⟩:=uJ ho;simp only[ZI.bV,decide_eq_true_eq]at h1;have h3:=vL h2;simp only[evalOp,bZ,hn,hk,hx];rw[if_pos h1];have h4:(vJ s)[ZI.bV.nat n]?=(s.data.toList[n.toNat]?).map fun b=>[Tree.v (.int .u8 b.toNat)]:=by
     unfold vJ;rw[List.getElem?_map];rfl
    rw[h4]at h3;obtain⟨b,hb,mX⟩:=Option.map_eq_some_iff.1 h3;have h5:s[n.toNat]?=some b:=by
     have bG:n.toNat<s.data.toList.length:=(List.getElem?_eq_some_iff.1 hb).1;have tc:n.toNat<s.size:=bG;have e1:=(List.getElem?_eq_some_iff.1 hb).2;rw[getElem?_pos s n.toNat tc];congr 1
    rw[h5];simp only[Option.some.injEq];simp only[List.cons.injEq,Tree.v.injEq,Value.int.injEq,true_and,and_true]at mX;rw[<-mX]
   ·exact oQ he
  ·cases he
 ·rename_i t x i ok
  split at he
  ·rename_i ti bZ
   split at he
   ·rename_i k e1 b key hk hx hi
    split at he
    ·rename_i cR tk te hb eC du
     split at he
     ·rename_i q1 q2 q3
      cases he;have h1:=iX ho;simp only[evalOp,bZ,hk,hx,hi,hb,eC,du,q3,q1,TK.agg,Bool.not_true,Bool.or_self,Bool.false_eq_true,if_false,q2];simp only[ZI.bV]at h1 ⊢;split at h1
      ·rename_i hf;simp[hf,dY]
      ·rename_i bb hf;simp[hf,dY]
      ·cases h1
     ·rename_i ik z q1 q2 q3
      split at he
      ·rename_i t0 hf
       cases he;simp only[evalOp,bZ,hk,hx,hi,hb,eC,du,q3,q1,TK.agg,Bool.not_true,Bool.or_self,Bool.false_eq_true,if_false,q2,show cX key cR=some (some t0) from hf]
      ·rename_i hf
       cases he;simp only[evalOp,bZ,hk,hx,hi,hb,eC,du,q3,q1,TK.agg,Bool.not_true,Bool.or_self,Bool.false_eq_true,if_false,q2,show cX key cR=some none from hf]
      ·cases he
     ·exact oQ he
    ·rename_i cR tk te hb eC du
     split at he
     ·rename_i ik z q1 q2 q3
      split at he
      ·rename_i t0 hf
       cases he;simp only[evalOp,bZ,hk,hx,hi,hb,eC,du,q3,q1,TK.agg,Bool.not_true,Bool.or_self,Bool.false_eq_true,if_false,if_true,q2,show cX key cR=some (some t0) from hf]
      ·rename_i hf
       cases he;simp only[evalOp,bZ,hk,hx,hi,hb,eC,du,q3,q1,TK.agg,Bool.not_true,Bool.or_self,Bool.false_eq_true,if_false,if_true,q2,show cX key cR=some none from hf]
      ·cases he
     ·exact oQ he
    ·exact oQ he
   ·cases he
  ·cases he
 ·rename_i t x i v
  split at he
  ·rename_i ti bZ
   split at he
   ·rename_i k e1 b key y hk hx hi hv
    split at he
    ·rename_i cR tk te hb eC du
     split at he
     ·rename_i q1 q2
      cases he;have h1:=iX ho;simp only[evalOp,bZ,hk,hx,hi,hv,hb,eC,q2,Bool.not_true,Bool.false_eq_true,if_false];obtain⟨es,hes⟩:∃es,fV key (.v (.bool y)) cR=some es:=by
       have:cX key cR≠none:=by
        intro hn;simp only[ZI.bV,hn]at h1;cases h1
       obtain⟨r,hr⟩:=Option.ne_none_iff_exists'.1 this;exact nt hr
      simp only[hes,ZI.bV,Option.getD_some]
     ·exact oQ he
    ·cases he
   ·rename_i k e1 b key ik y hk hx hi hv
    split at he
    ·rename_i cR tk hb eC
     split at he
     ·rename_i r q1 q2
      cases he;obtain⟨es,hes⟩:=nt (t:=.v (.int ik y)) (show cX key cR=some r from q2);simp only[evalOp,bZ,hk,hx,hi,hv,hb,eC,q1,Bool.not_true,Bool.false_eq_true,if_false,hes,ZI.bV,Option.getD_some]
     ·cases he
    ·cases he
   ·exact oQ he
  ·cases he
 ·exact oQ he
section
variable (Z:ZI) (C:eh)
def Jj (h:Hp):AV->OZ (TV×List (Nat×Option aC))
 | .c c=>match vI Z h c with
  | some (o,t,m)=>some (o,.c t,m)
  | none=>none
 | .agg l=>match kJ Z h l with
  | some (o,ts,m)=>some (o,.agg ts,m)
  | none=>none
 | _=>none
def xh (h:Hp):Mode->AV->OZ (Arg×List (Nat×Option aC)×bH)
 | .val,.c (.dy f aK)=>some ([],.dy f aK,[],.none)
 | .val,x=>match Jj Z h x with
  | some (o,v,m)=>some (o,.val v,m,.none)
  | none=>none
 | .fj,.c (.sl b off len false)=>match h b with
  | some (.rows sz rows _ false)=>some ([Z.fit off len rows],.fj sz (Z.part rows off len),[],.fj b off len)
  | _=>none
 | .own sz,.c (.sl b 0 len false)=>match h b with
  | some (.rows kX rows true false)=>if kX=sz then some ([Z.neq len (Z.len rows)],.own sz rows,[],.own b) else none
  | _=>none
 | .own sz,.c (.t (.aa true []))=>some ([],.own sz [],[],.none)
 | .rd,.c (.sl b off len false)=>match h b with
  | some (.rows sz rows _ false)=>some ([Z.fit off len rows],.fj sz (Z.part rows off len),[],.fj b off len)
  | _=>none
 | .rd,x=>match Jj Z h x with
  | some (o,v,m)=>some (o,.val v,m,.none)
  | none=>none
 | .ref,.c (.ptr b 0 0)=>match h b with
  | some (.var cells)=>match bL h cells with
   | some (ts,[])=>some ([],.ref ts,[],.ref b)
   | _=>none
  | _=>none
 | _,_=>none
def kK (h:Hp):List Mode->List AV->OZ (List Arg×List (Nat×Option aC)×List bH)
 | [],[]=>some ([],[],[],[])
 | m::ms,x::xs=>match xh Z h m x,kK h ms xs with
  | some (o,a,k,b),some (os,as,ks,bs)=>some (o++os,a::as,k++ks,b::bs)
  | _,_=>none
 | _,_=>none
def tD (h:Hp) (ms:List Mode) (xs:List AV):OZ (List Arg×List (Nat×Option aC)×List bH):=
 match kK Z h ms xs with
 | none=>none
 | some (o,as,ks,bs)=>match oY as []with
  | []=>some (o,as,ks,bs)
  | g::gs=>match kf h (g::gs) with
   | some Aw=>some (o,pO (g::gs) as.length as++Aw,ks,bs++qZ (g::gs))
   | none=>none
def iv (h:Hp):List bH->List (Option aC)->OZ (List (Nat×Option aC))
 | [],[]=>some ([],[])
 | .none::bs,_::os=>iv h bs os
 | .own b::bs,_::os=>(iv h bs os).map fun p=>(p.1,(b,none)::p.2)
 | .fj b off len::bs,some (.rows sz r false false)::os=>match h b with
  | some (.rows kX rows g false)=>if kX=sz then(iv h bs os).map fun p=>(Z.neq (Z.len r) len::p.1,(b,some (.rows kX (Z.yG rows off r) g false))::p.2) else none
  | _=>none
 | .ref b::bs,some (.var cs)::os=>match h b with
  | some (.var gB)=>if cs.length=gB.length then(iv h bs os).map fun p=>(p.1,(b,some (.var cs))::p.2) else none
  | _=>none
 | _,_=>none
def oy (slot:Nat):List RC->List AV×List (Nat×Option aC)
 | []=>([],[])
 | .val x::rs=>match oy slot rs with
  | (a,b)=>(x.av::a,b)
 | .own sz rows::rs=>match oy (slot+1) rs with
  | (a,b)=>(.c (.sl slot 0 (Z.len rows) false)::a,(slot,some (.rows sz rows true false))::b)
def xi (h:Hp) (slot:Nat) (marks:List (Nat×Option aC)) (dQ:List bH) (res:mB):OZ bW:=
 match oy Z slot res.aT,dQ.filterMap bH.id with
 | (bI,abg),is=>
  if(res.aT.all RC.scalar)&&is.isEmpty then some ([],{ val:=Ho bI,rd:=Go.Abs.ids marks })
  else if !(is.all fun i=>!((Go.Abs.ids marks).contains i)) || !decide is.Nodup || !decide ((res.aT.filter RC.na).length<=2) then none
  else match iv Z h dQ res.out with
   | some (o,bw)=>some (o,{ val:=Ho bI,wr:=marks++bw++abg,rd:=Go.Abs.ids marks++is })
   | none=>none
end
inductive TM where
 | leaf (x:AV)
 | node (h:Nat) (l r:TM)
def TM.get:TM->Nat->AV
 | .leaf x,_=>x
 | .node h l r,i=>if i<h then l.get i else r.get (i-h)
def TM.set:TM->Nat->AV->TM
 | .leaf _,_,x=>.leaf x
 | .node h l r,i,x=>if i<h then .node h (l.set i x) r else .node h l (r.set (i-h) x)
def TM.ok:TM->Nat->Prop
 | .leaf _,n=>n<=1
 | .node h l r,n=>l.ok (Min.min n h)/\r.ok (n-h)
def TM.PA:TM->Nat->List AV->List AV
 | .leaf x,n,acc=>if n=0 then acc else x::acc
 | .node h l r,n,acc=>l.PA (Min.min n h) (r.PA (n-h) acc)
def TM.UP:Nat->List AV->TM
 | _,[]=>.leaf .af
 | 0,x::_=>.leaf x
 | k+1,x::l=>.node (2^k) (TM.UP k ((x::l).take (2^k))) (TM.UP k ((x::l).drop (2^k)))
theorem TM.Dc:∀(t:TM) (n d i:Nat) (x:AV),t.ok n->d<n->i<n->(t.set d x).get i=if i=d then x else t.get i
 | .leaf y,n,d,i,x,h,hd,hi=>by
  have h:n<=1:=h;have:i=d:=by omega
  rw[if_pos this];rfl
 | .node h l r,n,d,i,x,ho,hd,hi=>by
  obtain⟨h1,h2⟩:=ho;simp only[TM.set]
  by_cases hdh:d<h
  ·rw[if_pos hdh]
   simp only[TM.get]
   by_cases LV:i<h
   ·rw[if_pos LV,if_pos LV,TM.Dc l _ d i x h1 (by omega) (by omega)]
   ·rw[if_neg LV,if_neg LV,if_neg (by omega)]
  ·rw[if_neg hdh]
   simp only[TM.get]
   by_cases LV:i<h
   ·rw[if_pos LV,if_pos LV,if_neg (by omega)]
   ·rw[if_neg LV,if_neg LV,TM.Dc r _ (d-h) (i-h) x h2 (by omega) (by omega)]
    by_cases he:i=d
    ·rw[if_pos (by omega),if_pos he]
    ·rw[if_neg (by omega),if_neg he]
theorem TM.Dd:∀(t:TM) (n d:Nat) (x:AV),t.ok n->(t.set d x).ok n
 | .leaf y,n,d,x,h=>h
 | .node h l r,n,d,x,ho=>by
  simp only[TM.set];split
  ·exact⟨TM.Dd l _ d x ho.1,ho.2⟩
  ·exact⟨ho.1,TM.Dd r _ _ x ho.2⟩
theorem TM.tE:∀(t:TM) (n:Nat) (acc:List AV),t.ok n->(t.PA n acc).length=n+acc.length/\∀i,(i<n->(t.PA n acc)[i]?=some (t.get i))/\(t.PA n acc)[n+i]?=acc[i]?
 | .leaf x,n,acc,h=>by
  have h:n<=1:=h;simp only[TM.PA];split
  ·rename_i h0;subst h0;refine⟨by simp,fun i=>⟨fun hi=>by omega,by simp⟩⟩
  ·rename_i h0
   have:n=1:=by omega
   subst this;refine⟨by simp;omega,fun i=>⟨fun hi=>?_,?_⟩⟩
   ·have:i=0:=by omega
    subst this;rfl
   ·rw[Nat.add_comm];simp
 | .node h l r,n,acc,ho=>by
  obtain⟨h1,h2⟩:=ho;obtain⟨e1,e2⟩:=TM.tE r (n-h) acc h2;obtain⟨e3,e4⟩:=TM.tE l (Min.min n h) (r.PA (n-h) acc) h1;simp only[TM.PA];refine⟨by rw[e3,e1];omega,fun i=>⟨fun hi=>?_,?_⟩⟩
  ·simp only[TM.get]
   by_cases LV:i<h
   ·rw[if_pos LV];exact(e4 i).1 (by omega)
   ·rw[if_neg LV]
    have:=(e4 (i-h)).2;rw[show Min.min n h+(i-h)=i by omega]at this;rw[this];exact(e2 (i-h)).1 (by omega)
  ·have:=(e4 (n-h+i)).2
   rw[show Min.min n h+(n-h+i)=n+i by omega]at this;rw[this];exact(e2 i).2
theorem TM.De:∀(k:Nat) (l:List AV),l.length<=2^k->(TM.UP k l).ok l.length/\∀i,i<l.length->(TM.UP k l).get i=l.getD i .af
 | k,[],h=>by
  cases k<;>exact⟨Nat.zero_le _,fun i hi=>by simp at hi⟩
 | 0,x::l,h=>by
  have h:(x::l).length<=1:=h;have hl:l=[]:=by simpa using h
  subst hl;exact⟨Nat.le_refl 1,fun i hi=>by
   have:i=0:=by simpa using hi
   subst this;rfl⟩
 | k+1,x::l,h=>by
  have hp:2^(k+1)=2^k+2^k:=by rw[Nat.pow_succ];omega
  obtain⟨a1,a2⟩:=TM.De k ((x::l).take (2^k)) (by rw[List.length_take];omega);obtain⟨b1,b2⟩:=TM.De k ((x::l).drop (2^k)) (by rw[List.length_drop];omega);rw[List.length_take]at a1 a2;rw[List.length_drop]at b1 b2;refine⟨⟨by rw[Nat.min_comm];exact a1,b1⟩,fun i hi=>?_⟩;simp only[TM.UP,TM.get]
  by_cases Pr:i<2^k
  ·rw[if_pos Pr,a2 i (by omega)]
   simp only[List.getD_eq_getElem?_getD,List.getElem?_take,if_pos Pr]
  ·rw[if_neg Pr,b2 (i-2^k) (by omega)]
   simp only[List.getD_eq_getElem?_getD,List.getElem?_drop];rw[show 2^k+(i-2^k)=i by omega]
structure ST where
 n:Nat
 tm:TM
 heap:bM
 lit:List Nat
def ST.get (st:ST):Operand->AV
 | .tmp t=>if t<st.n then st.tm.get t else .af
 | .const v=>ofConst v
 | .func f=>.c (.t (.v (.func (.func f) #[] #[])))
 | .global _=>.af
def ST.fI (st:ST):St:=⟨st.tm.PA st.n [],st.heap⟩
def vM (n:Nat):Nat:=if n<=16 then 4 else if n<=64 then 6 else if n<=256 then 8 else if n<=1024 then 10 else n
def ST.lI (st:St):ST:=⟨st.tmps.length,TM.UP (vM st.tmps.length) st.tmps,st.heap,[]⟩
def ST.ok (st:ST):Prop:=st.tm.ok st.n
def ST.app (st:ST) (o:Oper) (e:bW):ST:=⟨st.n,match o.dst with|some d=>if d<st.n then st.tm.set d e.val else st.tm|none=>st.tm,eK st.heap e.wr,st.lit⟩
def ST.ext (st:ST) (n:Nat):ST:=⟨st.n,st.tm,st.heap++List.replicate n none,st.lit⟩
def ST.addLit (st:ST) (b:Bool) (o:Oper):ST:=match o.dst with
 | none=>st
 | some d=>match b with
  | true=>⟨st.n,st.tm,st.heap,d::st.lit⟩
  | false=>match st.lit.contains d with
   | true=>⟨st.n,st.tm,st.heap,st.lit.filter (fun x=>!(x==d))⟩
   | false=>st
def yI (l:List Nat):Operand->Bool
 | .const _=>true
 | .tmp t=>l.contains t
 | _=>false
def Jk (st:ST):Op->Bool
 | .move x=>yI st.lit x
 | .assign x=>yI st.lit x
 | .pick c a b=>match yI st.lit c with
  | true=>match(st.get c).bool? with
   | some true=>yI st.lit a
   | some false=>yI st.lit b
   | none=>false
  | false=>false
 | .unOp _ _ x=>yI st.lit x
 | _=>false
theorem ST.getD (st:ST) (h:st.ok) (t:Nat):st.fI.tmps.getD t .af=if t<st.n then st.tm.get t else .af:=by
 obtain⟨h1,h2⟩:=TM.tE st.tm st.n [] h;unfold ST.fI;simp only[List.getD_eq_getElem?_getD];split
 ·rename_i ht;rw[(h2 t).1 ht];rfl
 ·rename_i ht
  rw[List.getElem?_eq_none (by rw[h1];simp;omega)];rfl
theorem ST.get_eq (st:ST) (h:st.ok) (x:Operand):st.fI.get x=st.get x:=by
 cases x with
 | tmp t=>exact ST.getD st h t
 | _=>rfl
theorem ST.S7 {st:ST} (h:st.ok) (o:Oper) (e:bW):(st.app o e).ok:=by
 unfold ST.app ST.ok;simp only;split
 ·split
  ·exact TM.Dd _ _ _ _ h
  ·exact h
 ·exact h
theorem ph {l m:List AV} (h:l.length=m.length) (hi:∀i,i<l.length->l[i]?=m[i]?):l=m:=by
 apply List.ext_getElem?;intro i;rcases Nat.lt_or_ge i l.length with h1|h1
 ·exact hi i h1
 ·rw[List.getElem?_eq_none h1,List.getElem?_eq_none (by omega)]
theorem ST.MY {st:ST} (h:st.ok) (o:Oper) (e:bW):(st.app o e).fI=st.fI.app o e:=by
 unfold ST.app ST.fI St.app;obtain⟨h1,h2⟩:=TM.tE st.tm st.n [] h;simp only[St.mk.injEq,and_true];cases hd:o.dst with
 | none=>rfl
 | some d=>
  simp only
  by_cases Wo:d<st.n
  ·rw[if_pos Wo]
   obtain⟨h3,h4⟩:=TM.tE (st.tm.set d e.val) st.n [] (TM.Dd _ _ _ _ h);refine ph (by rw[h3,List.length_set,h1]) fun i hi=>?_
   rw[h3]at hi;simp only[List.length_nil,Nat.add_zero]at hi;rw[(h4 i).1 hi,TM.Dc _ _ _ _ _ h Wo hi,List.getElem?_set,h1]
   by_cases he:i=d
   ·subst he;simp[Wo]
   ·rw[if_neg he,if_neg (Ne.symm he)];exact((h2 i).1 hi).symm
  ·rw[if_neg Wo]
   simp only[List.length_nil,Nat.add_zero]at h1;exact(List.set_eq_of_length_le (by rw[h1];exact Nat.le_of_not_lt Wo)).symm
theorem ST.oz (st:ST):st.fI.heap=st.heap:=rfl
theorem xj (n:Nat):n<=2^vM n:=by
 unfold vM;split
 ·omega
 ·split
  ·omega
  ·split
   ·omega
   ·split
    ·omega
    ·exact Nat.le_of_lt Nat.lt_two_pow_self
theorem ST.lJ (st:St):(ST.lI st).ok:=(TM.De _ _ (xj _)).1
theorem ST.ib (st:St):(ST.lI st).fI=st:=by
 obtain⟨a,b⟩:=TM.De (vM st.tmps.length) st.tmps (xj _);obtain⟨h1,h2⟩:=TM.tE _ _ [] a;unfold ST.lI ST.fI;cases st with
 | mk tmps heap=>
 simp only[St.mk.injEq,and_true];simp only at h1 h2 b;refine ph (by rw[h1];simp) fun i hi=>?_
 rw[h1]at hi;simp only[List.length_nil,Nat.add_zero]at hi;rw[(h2 i).1 hi,b i hi,List.getD_eq_getElem?_getD,List.getElem?_eq_getElem hi];rfl
section
variable (Z:ZI) (C:eh)
def Wp (ops:List Oper) (x:Operand):Bool:=
 match x with
 | .tmp t=>ops.any fun o=>match o.dst,o.op with
  | some d,.buildSlice _ n _=>d==t&&decide (0<n)
  | _,_=>false
 | _=>false
def Df (st:ST) (ops:List Oper) (o:Oper):Option Bool:=
 match o.guard with
 | none=>some true
 | some (j,want)=>match(ops[j]?).bind (·.dst) with
  | some d=>CN want (st.get (.tmp d))
  | none=>none
def Dg (A:FuncId->Ask->pf->Prop) (ops:List Oper) (slot:Nat) (o:Oper) (st:ST) (k:bW->Prop):Prop:=
 match Df st ops o with
 | none=>False
 | some false=>k ri
 | some true=>
  match o.op with
  | .call { callee:=.value f,args,.. }=>
   match tq (st.get f) (args.toList.map st.get) with
   | none=>False
   | some (sS,bI)=>
    match C.md sS with
    | .sh _::_=>
     match pS (look st.heap) bI with
     | none=>False
     | some (ids,s)=>∃s',A sS (.h s) (.h s')/\match wH ids slot (slotsOf C o.op) s' with
      | some e=>k e
      | none=>False
    | ms=>
     match tD Z (look st.heap) ms bI with
     | none=>False
     | some (ob,as,marks,dQ)=>nr ob (∃res,A sS (.a as) (.a res)/\match xi Z (look st.heap) slot marks dQ res with
      | some (UE,e)=>nr UE (k e)
      | none=>False)
  | .call { callee:=.builtin .append,args,argTypes }=>
   match args.toList with
   | [s,x]=>
    match Wp ops x with
    | true=>match lH Z C slot st.get (look st.heap) (.call { callee:=.builtin .append,args,argTypes }) with
     | some (ob,e)=>nr ob (k e)
     | none=>False
    | false=>
     match lG Z (look st.heap) (st.get x),Ha (st.get s),lH Z C slot st.get (look st.heap) (.call { callee:=.builtin .append,args,argTypes }) with
     | some (o1,new,oM),true,some (ob,e)=>Br (Z.neq (Z.len new) 0) (nr o1 (k { val:=st.get s,rd:=oM })) (match(MX C argTypes).bind fun te=>HC Z te slot (look st.heap) (st.get s) o1 new oM with
      | some (oc,c,eg,Wn,e2)=>nr oc (Br c (k eg) (nr Wn (k e2)))
      | none=>nr ob (k e))
     | _,_,_=>False
   | _=>False
  | op=>match lH Z C slot st.get (look st.heap) op with
   | some (ob,e)=>nr ob (k e)
   | none=>False
def oA (ops:List Oper):List Oper->List Nat->List Nat
 | [],acc=>acc
 | o::os,acc=>match o.guard with
  | some (j,_)=>match(ops[j]?).bind (·.dst) with
   | some d=>match acc.contains d with
    | true=>oA ops os acc
    | false=>oA ops os (d::acc)
   | none=>oA ops os acc
  | none=>oA ops os acc
def tG (gs:List Nat) (lit:Bool) (o:Oper) (e:bW) (k:Bool->bW->Prop):Prop:=
 match gs with
 | []=>k lit e
 | g::gs=>match o.dst with
  | none=>k lit e
  | some d=>match(g::gs).contains d with
   | true=>match lit with
    | true=>k true e
    | false=>match e.val.bool? with
     | some b=>Br b (k true { e with val:=dY (.bool true) }) (k true { e with val:=dY (.bool false) })
     | none=>k false e
   | false=>k lit e
def AP (A:FuncId->Ask->pf->Prop) (ops:List Oper) (gs:List Nat):List Oper->Nat->ST->List bW->(List bW->ST->Prop)->Prop
 | [],_,st,tr,Q=>Q tr st
 | o::os,slot,st,tr,Q=>Dg Z C A ops slot o st fun e=>tG gs (Jk st o.op) o e fun b e=>AP A ops gs os (slot+slotsOf C o.op) ((st.app o e).addLit b o) (tr ++ [e]) Q
def dJ (A:FuncId->Ask->pf->Prop) (L:Code->St->(bf->ST->Prop)->Prop):Code->ST->(bf->ST->Prop)->Prop
 | .skip,st,Q=>Q .normal st
 | .ret,st,Q=>Q .ret st
 | .exit id,st,Q=>Q (.exit id) st
 | .seq x y,st,Q=>dJ A L x st fun e s=>match e with
  | .normal=>dJ A L y s Q
  | .exit id=>Q (.exit id) s
  | .ret=>Q .ret s
 | .region _ ops draw,st,Q=>AP Z C A ops.toList (oA ops.toList ops.toList []) ops.toList st.heap.length (st.ext (bB C ops.toList)) [] fun aS tu=>match draw with
  | false=>Q .normal tu
  | true=>match AN ops.toList aS with
   | true=>Q .normal tu
   | false=>False
 | .cond c x y,st,Q=>match(st.get c).bool? with
  | some b=>match yI st.lit c with
   | true=>match b with
    | true=>dJ A L x st Q
    | false=>dJ A L y st Q
   | false=>Br b (dJ A L x st Q) (dJ A L y st Q)
  | none=>False
 | .block id c,st,Q=>dJ A L c st fun e s=>match e with
  | .normal=>Q .normal s
  | .exit Ej=>if Ej=id then Q .normal s else Q (.exit Ej) s
  | .ret=>Q .ret s
 | .loop c,st,Q=>match st.fI with
  | ⟨t,h⟩=>L c ⟨t,h⟩ Q
 | _,_,_=>False
end
def iY:Code->Bool
 | .seq x y=>iY x&&iY y
 | .region _ ops draw=>!draw||Fe ops.toList
 | .cond _ x y=>iY x&&iY y
 | .block _ c=>iY c
 | .loop c=>iY c
 | _=>true
section
variable {P:Program} {C:eh} {h:Hp} {n0:Nat}
theorem AQ {x:AV} {o:List Bool} {v:TV} {m:List (Nat×Option aC)} (e:Jj ZI.bV h x=some (o,v,m)) (ho:fE o):wC h x=some (v,m):=by
 unfold Jj at e;unfold wC;split at e
 ·split at e
  ·rename_i h1;cases e;simp only[uI h1 ho,Option.map_some]
  ·cases e
 ·split at e
  ·rename_i h1;cases e;simp only[jd h1 ho,Option.map_some]
  ·cases e
 ·cases e
theorem Dh {md:Mode} {x:AV} {o:List Bool} {a:Arg} {m:List (Nat×Option aC)} {b:bH} (e:xh ZI.bV h md x=some (o,a,m,b)) (ho:fE o):ez h md x=some (a,m,b):=by
 unfold xh at e;split at e
 ·cases e;rfl
 ·rename_i cY
  split at e
  ·rename_i h1;cases e;rw[uG cY,AQ h1 ho];rfl
  ·cases e
 ·split at e
  ·rename_i hb
   cases e;have:=iX ho;simp only[ZI.bV,decide_eq_true_eq]at this;simp only[ez,hb];rw[if_pos this];rfl
  ·cases e
 ·split at e
  ·rename_i hb
   split at e
   ·rename_i dS
    cases e;have:=iX ho;simp only[ZI.bV,decide_eq_true_eq]at this;simp only[ez,hb];rw[if_pos ⟨dS,this⟩]
   ·cases e
  ·cases e
 ·cases e;rfl
 ·split at e
  ·rename_i hb
   cases e;have:=iX ho;simp only[ZI.bV,decide_eq_true_eq]at this;simp only[ez,hb];rw[if_pos this];rfl
  ·cases e
 ·rename_i cY
  split at e
  ·rename_i h1;cases e;rw[wV cY,AQ h1 ho];rfl
  ·cases e
 ·split at e
  ·rename_i hb
   split at e
   ·rename_i ht
    cases e;simp only[ez,hb,ht]
   ·cases e
  ·cases e
 ·cases e
theorem iw:∀ {ms:List Mode} {xs:List AV} {o:List Bool} {as:List Arg} {m:List (Nat×Option aC)} {bs:List bH},kK ZI.bV h ms xs=some (o,as,m,bs)->fE o->ch h ms xs=some (as,m,bs)
 | [],[],o,as,m,bs,e,ho=>by cases e;rfl
 | md::ms,x::xs,o,as,m,bs,e,ho=>by
  unfold kK at e;split at e
  ·rename_i h1 h2
   cases e;obtain⟨a,b⟩:=fM ho;simp only[ch,Dh h1 a,iw h2 b]
  ·cases e
 | [],_::_,o,as,m,bs,e,ho=>by cases e
 | _::_,[],o,as,m,bs,e,ho=>by cases e
theorem yJ {ms:List Mode} {xs:List AV} {o:List Bool} {as:List Arg} {m:List (Nat×Option aC)} {bs:List bH} (e:tD ZI.bV h ms xs=some (o,as,m,bs)) (ho:fE o):eQ h ms xs=some (as,m,bs):=by
 unfold tD at e;split at e
 ·cases e
 rename_i o1 as0 ks bs0 h1;split at e
 ·rename_i hg
  cases e;unfold eQ;simp only[iw h1 ho,hg]
 ·rename_i g gs hg
  split at e
  ·rename_i Aw h2
   cases e;unfold eQ;simp only[iw h1 ho,hg,h2]
  ·cases e
theorem iM:∀ {bs:List bH} {os:List (Option aC)} {o:List Bool} {w:List (Nat×Option aC)},iv ZI.bV h bs os=some (o,w)->fE o->dz h bs os=some w
 | [],[],o,w,e,ho=>by cases e;rfl
 | .none::bs,x::os,o,w,e,ho=>by
  simp only[iv]at e;simp only[dz];exact iM e ho
 | .own b::bs,x::os,o,w,e,ho=>by
  simp only[iv]at e;obtain⟨p,h1,h2⟩:=Option.map_eq_some_iff.1 e;cases h2;simp only[dz,iM (o:=p.1) (w:=p.2) h1 ho,Option.map_some]
 | .fj b off len::bs,some (.rows sz r false false)::os,o,w,e,ho=>by
  simp only[iv]at e;split at e
  ·rename_i hb
   split at e
   ·rename_i dS
    obtain⟨p,h1,h2⟩:=Option.map_eq_some_iff.1 e;cases h2;have q1:=ho _ (List.mem_cons_self ..);simp only[ZI.bV,decide_eq_true_eq]at q1;simp only[dz,hb];rw[if_pos ⟨dS,q1⟩,iM (o:=p.1) (w:=p.2) h1 fun c hc=>ho c (List.mem_cons_of_mem _ hc)];rfl
   ·cases e
  ·cases e
 | .ref b::bs,some (.var cs)::os,o,w,e,ho=>by
  simp only[iv]at e;split at e
  ·rename_i hb
   split at e
   ·rename_i dS
    obtain⟨p,h1,h2⟩:=Option.map_eq_some_iff.1 e;cases h2;simp only[dz,hb];rw[if_pos dS,iM (o:=p.1) (w:=p.2) h1 ho];rfl
   ·cases e
  ·cases e
 | [],_::_,o,w,e,ho=>by cases e
 | .none::_,[],o,w,e,ho=>by cases e
 | .own _::_,[],o,w,e,ho=>by cases e
 | .fj _ _ _::_,[],o,w,e,ho=>by cases e
 | .ref _::_,[],o,w,e,ho=>by cases e
 | .fj _ _ _::_,none::_,o,w,e,ho=>by cases e
 | .ref _::_,none::_,o,w,e,ho=>by cases e
 | .fj _ _ _::_,some (.var _)::_,o,w,e,ho=>by cases e
 | .fj _ _ _::_,some (.map _)::_,o,w,e,ho=>by cases e
 | .fj _ _ _::_,some (.rows _ _ true _)::_,o,w,e,ho=>by cases e
 | .fj _ _ _::_,some (.rows _ _ false true)::_,o,w,e,ho=>by cases e
 | .ref _::_,some (.rows _ _ _ _)::_,o,w,e,ho=>by cases e
 | .ref _::_,some (.map _)::_,o,w,e,ho=>by cases e
theorem nw:∀(slot:Nat) (l:List RC),oy ZI.bV slot l=dW slot l
 | _,[]=>rfl
 | slot,.val x::rs=>by simp only[oy,dW,nw slot rs]
 | slot,.own sz rows::rs=>by simp only[oy,dW,nw (slot+1) rs];rfl
theorem Di {slot:Nat} {marks:List (Nat×Option aC)} {dQ:List bH} {res:mB} {o:List Bool} {e:bW} (he:xi ZI.bV h slot marks dQ res=some (o,e)) (ho:fE o):gG h slot marks dQ res=some e:=by
 unfold xi at he;unfold gG;rw[nw]at he;simp only at he ⊢;split at he
 ·rename_i hc;cases he;rw[if_pos hc]
 ·rename_i hc
  rw[if_neg hc];split at he
  ·cases he
  ·rename_i hd
   rw[if_neg hd];split at he
   ·rename_i o1 bw h1
    cases he;simp only[iM h1 ho]
   ·cases he
theorem Fs {st:ST} (h:st.ok) (ops:List Oper) (o:Oper):Df st ops o=ir st.fI.tmps ops o:=by
 unfold Df ir;cases hg:o.guard with
 | none=>rfl
 | some p=>
  obtain⟨j,want⟩:=p;simp only;cases hd:(ops[j]?).bind (·.dst) with
  | none=>rfl
  | some d=>
   simp only;rw[ST.getD st h];rfl
theorem PC {st:ST} (h:st.ok):st.fI.get=st.get:=by funext x;exact ST.get_eq st h x
theorem HG {ops:List Oper} {slot:Nat} {o:Oper} {st:ST} (dN:st.ok) {k:bW->Prop} (hk:Dg ZI.bV C (kH P) ops slot o st k):fw P C ops slot o st.fI k:=by
 unfold Dg at hk;unfold fw;rw[Fs dN]at hk;rw[PC dN,ST.oz];cases hw:ir st.fI.tmps ops o with
 | none=>simp only[hw]at hk
 | some b=>
 cases b with
 | false=>simp only[hw]at hk ⊢;exact hk
 | true=>
 simp only[hw]at hk ⊢;split at hk
 ·rename_i f args argTypes eJ
  simp only[eJ];split at hk
  ·exact hk.elim
  ·rename_i sS bI hc
   simp only[hc];split at hk
   ·rename_i n0 YO OJ
    simp only[OJ];split at hk
    ·exact hk.elim
    ·rename_i ids s hp
     simp only[hp];obtain⟨s',h2,h3⟩:=hk;rw[eJ]at h3;exact⟨s',h2,h3⟩
   ·rename_i MH
    split at hk
    ·exact hk.elim
    ·rename_i ob as marks dQ hp
     obtain⟨h1,res,h2,h3⟩:=OK hk;simp only[yJ hp h1];refine⟨res,h2,?_⟩;split at h3
     ·rename_i UE e he
      obtain⟨h4,h5⟩:=OK h3;simp only[Di he h4];exact h5
     ·exact h3.elim
 ·rename_i args argTypes eJ
  simp only[eJ];split at hk
  ·rename_i s x dG
   split at hk
   ·split at hk
    ·rename_i ob e he
     obtain⟨h4,h5⟩:=OK hk;simp only[nu he h4];exact h5
    ·exact hk.elim
   ·split at hk
    ·rename_i o1 new oM ob e hr hs he
     by_cases hz:ZI.bV.neq (ZI.bV.len new) 0=true
     ·obtain⟨h4,h5⟩:=OK (hk.t hz)
      have ym:=Ro hr h4;have hz':new.length=0:=by simpa[ZI.bV]using hz
      have YQ:evalOp C slot st.get (look st.heap) (.call { callee:=.builtin .append,args,argTypes })=some { val:=st.get s,rd:=oM }:=by
       simp only[lH,dG]at he;simp only[evalOp,dG];cases ht:argTypes[0]? with
       | none=>rw[ht]at he;simp at he
       | some t=>
       simp only[ht]at he ⊢;split at he
       ·rename_i ti bZ
        split at he
        ·rename_i el hk
         split at he
         ·rename_i te t1 du yv
          split at he
          ·rename_i OW CM
           split at he
           ·rename_i e1 GS
            split at he
            ·cases he
            ·rename_i hz
             simp only[bZ,hk,du,yv,CM,GS];rw[if_neg hz];simp only[bU,ym];rw[if_pos hz',if_pos hs]
           ·cases he
          ·cases he
         ·cases he
        ·cases he
       ·cases he
      simp only[YQ];exact h5
     ·have GU:=hk.f (by simpa using hz)
      split at GU
      ·rename_i oc c eg Wn e2 hap
       obtain⟨te,yv,Vz⟩:=Option.bind_eq_some_iff.1 hap;obtain⟨h4,h5⟩:=OK GU;obtain⟨g1,g2⟩:=HE (x:=st.get x) Vz hr h4;have YQ:∀e',bU te slot (look st.heap) (st.get s) (st.get x)=some e'->evalOp C slot st.get (look st.heap) (.call { callee:=.builtin .append,args,argTypes })=some e':=by
        intro e' hh;simp only[lH,dG]at he;simp only[evalOp,dG];simp only[MX]at yv;cases ht:argTypes[0]? with
        | none=>rw[ht]at he;simp at he
        | some t=>
        simp only[ht]at he yv ⊢;split at he
        ·rename_i ti bZ
         simp only[bZ]at yv ⊢;split at he
         ·rename_i el hk
          simp only[hk]at yv ⊢;split at he
          ·rename_i te2 t1 du SD
           have:te2=te:=Option.some.inj (du.symm.trans yv);subst this;split at he
           ·rename_i OW CM
            split at he
            ·rename_i e1 GS
             split at he
             ·cases he
             ·rename_i hz
              simp only[du,SD,CM,GS];rw[if_neg hz];exact hh
            ·cases he
           ·cases he
          ·cases he
         ·cases he
        ·cases he
       cases c with
       | true=>simp only[YQ _ (g1 rfl)];exact h5.t rfl
       | false=>
        obtain⟨h6,h7⟩:=OK (h5.f rfl);simp only[YQ _ (g2 rfl h6)];exact h7
      ·obtain⟨h4,h5⟩:=OK GU
       simp only[nu he h4];exact h5
    ·exact hk.elim
  ·exact hk.elim
 ·rename_i LW Ft
  split at hk
  ·rename_i ob e he
   obtain⟨h4,h5⟩:=OK hk;have Sv:=nu he h4;split
   ·rename_i eJ
    exact absurd eJ (LW _ _ _)
   ·simp only[Sv];exact h5
  ·exact hk.elim
theorem HH {gs:List Nat} {lit:Bool} {o:Oper} {e:bW} {k:Bool->bW->Prop} (h:tG gs lit o e k):∃b,k b e:=by
 have key:∀b,e.val.bool?=some b->Br b (k true { e with val:=dY (.bool true) }) (k true { e with val:=dY (.bool false) })->k true e:=by
  intro b hb h;have hv:e.val=dY (.bool b):=by
   cases hv:e.val with
   | c x=>cases x with
    | t t=>cases t with
     | v x=>cases x<;>simp[hv,AV.bool?]at hb;subst hb;rfl
     | aa=>simp[hv,AV.bool?]at hb
    | _=>simp[hv,AV.bool?]at hb
   | _=>simp[hv,AV.bool?]at hb
  have he:e={ e with val:=dY (.bool b) }:=by rw[<-hv]
  rw[he];cases b with
  | true=>exact h.t rfl
  | false=>exact h.f rfl
 unfold tG at h;split at h
 ·exact⟨_,h⟩
 ·split at h
  ·exact⟨_,h⟩
  ·split at h
   ·split at h
    ·exact⟨_,h⟩
    ·split at h
     ·rename_i b hb;exact⟨_,key b hb h⟩
     ·exact⟨_,h⟩
   ·exact⟨_,h⟩
theorem ST.Fu (st:ST) (b:Bool) (o:Oper):(st.addLit b o).fI=st.fI:=by
 unfold ST.addLit;split
 ·rfl
 ·split
  ·rfl
  ·split<;>rfl
theorem ST.Ky {st:ST} (h:st.ok) (b:Bool) (o:Oper):(st.addLit b o).ok:=by
 unfold ST.addLit;split
 ·exact h
 ·split
  ·exact h
  ·split<;>exact h
def MZ (Q:bf->ST->Prop):bf->St->Prop:=fun e s=>∃s',s'.ok/\s'.fI=s/\Q e s'
theorem AR {ops:List Oper} {gs:List Nat}:∀(os:List Oper) (slot:Nat) (st:ST) (tr:List bW) {k:List bW->ST->Prop},st.ok->AP ZI.bV C (kH P) ops gs os slot st tr k->wM P C ops os slot st.fI tr fun t s=>∃s',s'.ok/\s'.fI=s/\k t s'
 | [],slot,st,tr,k,dN,hk=>⟨st,dN,rfl,hk⟩
 | o::os,slot,st,tr,k,dN,hk=>xa (HG dN hk) fun e he=>by
  obtain⟨b,hb⟩:=HH he;rw[<-ST.MY dN,<-ST.Fu _ b o];exact AR os _ _ _ (ST.Ky (ST.S7 dN o e) b o) hb
theorem Rp:∀(c:Code) (st:St) {Q Q':bf->St->Prop},fx P C n0 c st Q->(∀e s,Q e s->Q' e s)->fx P C n0 c st Q':=by
 intro c
 induction c with
 | skip=>intro st Q Q' h hq;exact hq _ _ h
 | ret=>intro st Q Q' h hq;exact hq _ _ h
 | exit id=>intro st Q Q' h hq;exact hq _ _ h
 | seq x y Fh Fi=>
  intro st Q Q' h hq;refine Fh st h fun e s hs=>?_
  cases e with
  | normal=>exact Fi s hs hq
  | exit id=>exact hq _ _ hs
  | ret=>exact hq _ _ hs
 | region id ops draw=>
  intro st Q Q' h hq;refine ou _ _ _ _ h fun t s hs=>?_
  cases draw with
  | false=>exact hq _ _ hs
  | true=>
   simp only at hs ⊢;split at hs
   ·exact hq _ _ hs
   ·exact hs.elim
 | cond c x y Fh Fi=>
  intro st Q Q' h hq;simp only[fx]at h ⊢;split at h
  ·exact Fh st h hq
  ·exact Fi st h hq
  ·exact h.elim
 | block id c ih=>
  intro st Q Q' h hq;refine ih st h fun e s hs=>?_
  cases e with
  | normal=>exact hq _ _ hs
  | exit Ej=>
   simp only at hs ⊢;split at hs
   ·rename_i he;rw[if_pos he];exact hq _ _ hs
   ·rename_i he;rw[if_neg he];exact hq _ _ hs
  | ret=>exact hq _ _ hs
 | loop c ih=>intro st Q Q' h hq;exact dH.mono h hq
 | _=>intros;rename_i h _;exact False.elim h
def Fv (P:Program) (n0:Nat) (c:Code) (st:St) (Q:bf->ST->Prop):Prop:=iY c=true->rD P n0 c st (MZ Q)
theorem fZ:∀(c:Code) (st:ST) {Q:bf->ST->Prop},st.ok->iY c=true->dJ ZI.bV C (kH P) (Fv P n0) c st Q->fx P C n0 c st.fI (MZ Q):=by
 intro c
 induction c with
 | skip=>intro st Q dN hT h;exact⟨st,dN,rfl,h⟩
 | ret=>intro st Q dN hT h;exact⟨st,dN,rfl,h⟩
 | exit id=>intro st Q dN hT h;exact⟨st,dN,rfl,h⟩
 | seq x y Fh Fi=>
  intro st Q dN hT h;simp only[iY,Bool.and_eq_true]at hT;refine Rp x _ (Fh st dN hT.1 h) fun e s hs=>?_
  obtain⟨s',h1,rfl,h2⟩:=hs;cases e with
  | normal=>exact Fi s' h1 hT.2 h2
  | exit id=>exact⟨s',h1,rfl,h2⟩
  | ret=>exact⟨s',h1,rfl,h2⟩
 | region id ops draw=>
  intro st Q dN hT h;refine ou _ _ _ _ (AR _ _ _ _ (show(st.ext _).ok from dN) h) fun t s hs=>?_
  obtain⟨s',h1,rfl,hs⟩:=hs;cases draw with
  | false=>exact⟨s',h1,rfl,hs⟩
  | true=>
   simp only[iY,Bool.not_true,Bool.false_or]at hT;simp only at hs ⊢;split at hs
   ·rename_i hd;rw[hT,hd];exact⟨s',h1,rfl,hs⟩
   ·exact hs.elim
 | cond c x y Fh Fi=>
  intro st Q dN hT h;simp only[iY,Bool.and_eq_true]at hT;simp only[dJ]at h;simp only[fx];rw[ST.get_eq st dN];split at h
  ·rename_i b hb
   rw[hb];split at h
   ·cases b with
    | true=>exact Fh st dN hT.1 h
    | false=>exact Fi st dN hT.2 h
   ·cases b with
    | true=>exact Fh st dN hT.1 (h.t rfl)
    | false=>exact Fi st dN hT.2 (h.f rfl)
  ·exact h.elim
 | block id c ih=>
  intro st Q dN hT h;refine Rp c _ (ih st dN hT h) fun e s hs=>?_
  obtain⟨s',h1,rfl,hs⟩:=hs;cases e with
  | normal=>exact⟨s',h1,rfl,hs⟩
  | exit Ej=>
   simp only at hs ⊢;split at hs
   ·rename_i he;rw[if_pos he];exact⟨s',h1,rfl,hs⟩
   ·rename_i he;rw[if_neg he];exact⟨s',h1,rfl,hs⟩
  | ret=>exact⟨s',h1,rfl,hs⟩
 | loop c ih=>
  intro st Q dN hT h;exact h hT
 | _=>intros;rename_i h;exact False.elim h
end
inductive aW:Tree->Tree->Prop where
 | v (x:Value):aW (.v x) (.v x)
 | aa (cp GR:Bool) (rows dv:Rows) (f:Nat->Nat->Tree):(GR=true->cp=true)->rows.length=dv.length->(∀(n:Nat),(∀r∈rows,r.length=n)->∀r∈dv,r.length=n) ->
   (∀i j t',fg dv i j=some t'->fg rows i j=some (f i j))->(∀i j t',fg dv i j=some t'->aW (f i j) t')->aW (.aa cp rows) (.aa GR dv)
theorem aW.flag {cp GR:Bool} (rows:Rows) (yt:GR=true->cp=true) (hr:∀i j t,fg rows i j=some t->aW t t):aW (.aa cp rows) (.aa GR rows):=
 .aa cp GR rows rows (fun i j=>(fg rows i j).getD (.v undef)) yt rfl (fun n h=>h) (fun i j t ht=>by rw[ht];rfl) fun i j t ht=>by rw[ht];exact hr i j t ht
theorem aW.rfl':∀(n:Nat) (t:Tree),SizeOf.sizeOf t<n->aW t t
 | 0,t,h=>by omega
 | n+1,.v x,h=>.v x
 | n+1,.aa cp rows,h=>.flag rows (fun x=>x) fun i j t ht=>by
  unfold fg at ht;obtain⟨r,h1,h2⟩:=Option.bind_eq_some_iff.1 ht;have a:=List.sizeOf_lt_of_mem (List.mem_of_getElem? h1);have b:=List.sizeOf_lt_of_mem (List.mem_of_getElem? h2);have:=Tree.aa.sizeOf_spec cp rows;exact aW.rfl' n t (by omega)
theorem aW.refl (t:Tree):aW t t:=aW.rfl' _ t (Nat.lt_succ_self _)
theorem aW.drop (cp:Bool) (rows:Rows):aW (.aa cp rows) (.aa false rows):=.flag rows (fun h=>by cases h) fun _ _ t _=>.refl t
theorem dR.Fw {S:Place} {w:World} {t t':Tree} {v:Value} (hl:aW t t'):dR S w t v->dR S w t' v:=by
 induction hl generalizing v with
 | v x=>intro h;exact h
 | aa cp GR rows dv f h1 h2 I4 h3 _ ih=>
  intro h;cases h with
  | aa _ _ base cb co ai cap val q1 q2 q3 q4 q5 q6 q7 q8 q9=>
   rw[h2];refine .aa GR dv base cb co ai cap val (by omega) q2 (by omega) (fun hc=>by rw[<-h2];exact q4 (h1 hc)) (fun hn=>q5 fun h0=>hn ?_) q6 (I4 _ q7) (fun i j t' ht=>q8 i j _ (h3 i j t' ht)) fun i j t' ht=>ih i j t' ht (q9 i j _ (h3 i j t' ht))
   rw[h0]at h2;exact List.length_eq_zero_iff.1 h2.symm
def kh:List Tree->List Tree->Prop
 | [],[]=>True
 | x::xs,y::ys=>aW x y/\kh xs ys
 | _,_=>False
theorem kh.get:∀ {l l':List Tree},kh l l'->l.length=l'.length/\∀(i:Nat) (t':Tree),l'[i]?=some t'->∃t,l[i]?=some t/\aW t t'
 | [],[],_=>⟨rfl,by simp⟩
 | x::xs,y::ys,h=>by
  obtain⟨h1,h2⟩:=h;obtain⟨h3,h4⟩:=kh.get h2;refine⟨by simp[h3],fun i t' hi=>?_⟩;cases i with
  | zero=>simp at hi;subst hi;exact⟨x,rfl,h1⟩
  | succ i=>obtain⟨t,q1,q2⟩:=h4 i t' (by simpa using hi);exact⟨t,by simpa using q1,q2⟩
 | [],_::_,h=>h.elim
 | _::_,[],h=>h.elim
theorem kh.refl:∀(l:List Tree),kh l l
 | []=>trivial
 | x::xs=>⟨.refl x,kh.refl xs⟩
def je:TV->TV->Prop
 | .c t,.c t'=>aW t t'
 | .agg l,.agg l'=>kh l l'
 | _,_=>False
theorem je.refl:∀(x:TV),je x x
 | .c t=>aW.refl t
 | .agg l=>kh.refl l
theorem je.rep {β:Nat->Option bR} {S:Place} {w:World}:∀ {x y:TV} {v:Value},je x y->aH β S w x.av v->aH β S w y.av v
 | .c t,.c t',v,h,hv=>by
  cases hv with|c hv=>
  cases hv with|t hv=>
  exact .c (.t (hv.Fw h))
 | .agg l,.agg l',v,h,hv=>by
  obtain⟨h1,h2⟩:=kh.get h;cases hv with|agg vs q1 q2=>
  refine .agg vs (by simpa[h1]using q1) fun i c hi=>?_
  rw[List.getElem?_map]at hi;obtain⟨t',e1,rfl⟩:=Option.map_eq_some_iff.1 hi;obtain⟨t,e2,e3⟩:=h2 i t' e1;obtain⟨u,e4,e5⟩:=q2 i (.t t) (by rw[List.getElem?_map,e2];rfl);cases e5 with|t e5=>
  exact⟨u,e4,.t (e5.Fw e3)⟩
 | .c _,.agg _,v,h,hv=>h.elim
 | .agg _,.c _,v,h,hv=>h.elim
def Jl:Arg->Arg->Prop
 | .val x,.val y=>je x y
 | a,b=>a=b
theorem Jl.au:∀ {a b:Arg},Jl a b->a.au=b.au
 | .val x,.val y,_=>rfl
 | .val x,.fj _ _,h=>by cases h
 | .val x,.own _ _,h=>by cases h
 | .val x,.ref _,h=>by cases h
 | .fj _ _,b,h=>by cases h;rfl
 | .own _ _,b,h=>by cases h;rfl
 | .ref _,b,h=>by cases h;rfl
 | .val x,.dy _ _,h=>by cases h
 | .val x,.gh _,h=>by cases h
 | .dy _ _,b,h=>by cases h;rfl
 | .gh _,b,h=>by cases h;rfl
def dX:List Arg->List Arg->Prop
 | [],[]=>True
 | x::xs,y::ys=>Jl x y/\dX xs ys
 | _,_=>False
theorem dX.get:∀ {l l':List Arg},dX l l'->l.length=l'.length/\∀(i:Nat) (t':Arg),l'[i]?=some t'->∃t,l[i]?=some t/\Jl t t'
 | [],[],_=>⟨rfl,by simp⟩
 | x::xs,y::ys,h=>by
  obtain⟨h1,h2⟩:=h;obtain⟨h3,h4⟩:=dX.get h2;refine⟨by simp[h3],fun i t' hi=>?_⟩;cases i with
  | zero=>simp at hi;subst hi;exact⟨x,rfl,h1⟩
  | succ i=>obtain⟨t,q1,q2⟩:=h4 i t' (by simpa using hi);exact⟨t,by simpa using q1,q2⟩
 | [],_::_,h=>h.elim
 | _::_,[],h=>h.elim
theorem dX.au {l l':List Arg} (h:dX l l') (i:Nat):(l[i]?).bind Arg.au=(l'[i]?).bind Arg.au:=by
 obtain⟨h1,h2⟩:=h.get;cases hi:l'[i]? with
 | none=>rw[List.getElem?_eq_none (by rw[h1];exact List.getElem?_eq_none_iff.1 hi)]
 | some t'=>
  obtain⟨t,e1,e2⟩:=h2 i t' hi;rw[e1];exact e2.au
theorem dX.Kk {l l':List Arg} (h:dX l l') (Rs:Nat->bR):m8 l Rs=m8 l' Rs:=by
 have key:∀(a b:List Arg),(∀i:Nat,(a[i]?).bind Arg.au=(b[i]?).bind Arg.au)->∀c o,m8 a Rs c o->m8 b Rs c o:=by
  intro a b GO c o ⟨i,arg,au,h1,h2,h3⟩;have:(b[i]?).bind Arg.au=some au:=by rw[<-GO i,h1];exact h2
  obtain⟨abh,q1,q2⟩:=Option.bind_eq_some_iff.1 this;exact⟨i,abh,au,q1,q2,h3⟩
 funext c o;exact propext ⟨key l l' h.au c o,key l' l (fun i=>(h.au i).symm) c o⟩
theorem dX.refl:∀(l:List Arg),dX l l
 | []=>trivial
 | .val x::xs=>⟨je.refl x,dX.refl xs⟩
 | .fj _ _::xs=>⟨rfl,dX.refl xs⟩
 | .own _ _::xs=>⟨rfl,dX.refl xs⟩
 | .ref _::xs=>⟨rfl,dX.refl xs⟩
 | .dy _ _::xs=>⟨rfl,dX.refl xs⟩
 | .gh _::xs=>⟨rfl,dX.refl xs⟩
theorem dX.nv:∀ {l l':List Arg},dX l l'->kE l=kE l'
 | [],[],_=>rfl
 | x::xs,y::ys,h=>by
  obtain⟨h1,h2⟩:=h;have ih:=dX.nv h2;cases x with
  | val x=>
   cases y with
   | val y=>simp[kE,ih]
   | _=>cases h1
  | gh ts=>cases h1;rfl
  | _=>cases h1;simp[kE,ih]
 | [],_::_,h=>h.elim
 | _::_,[],h=>h.elim
theorem dX.βA {l l':List Arg} (h:dX l l') (Rs:Nat->bR):Abs.βA l Rs=Abs.βA l' Rs:=by
 funext i;unfold Abs.βA;rw[h.au i]
def PD:RC->RC->Prop
 | .val x,.val y=>je x y
 | a,b=>a=b
def pk:List RC->List RC->Prop
 | [],[]=>True
 | x::xs,y::ys=>PD x y/\pk xs ys
 | _,_=>False
theorem pk.get:∀ {l l':List RC},pk l l'->l.length=l'.length/\∀(i:Nat) (t':RC),l'[i]?=some t'->∃t,l[i]?=some t/\PD t t'
 | [],[],_=>⟨rfl,by simp⟩
 | x::xs,y::ys,h=>by
  obtain⟨h1,h2⟩:=h;obtain⟨h3,h4⟩:=pk.get h2;refine⟨by simp[h3],fun i t' hi=>?_⟩;cases i with
  | zero=>simp at hi;subst hi;exact⟨x,rfl,h1⟩
  | succ i=>obtain⟨t,q1,q2⟩:=h4 i t' (by simpa using hi);exact⟨t,by simpa using q1,q2⟩
 | [],_::_,h=>h.elim
 | _::_,[],h=>h.elim
theorem pk.refl:∀(l:List RC),pk l l
 | []=>trivial
 | .val x::xs=>⟨je.refl x,pk.refl xs⟩
 | .own _ _::xs=>⟨rfl,pk.refl xs⟩
def ak (r r':mB):Prop:=pk r.aT r'.aT/\r.out=r'.out
theorem ak.refl (r:mB):ak r r:=⟨pk.refl _,rfl⟩
theorem PD.own {x:RC} {sz:Nat} {rows:Rows} (h:PD x (.own sz rows)):x=.own sz rows:=by
 cases x with
 | val=>cases h
 | own=>exact h
theorem fK.Fw {args:List Arg} {res KA:mB} {S:Place} {w w':World} {Rs:Nat->bR} {v:Value} (hr:ak res KA) (hq:fK args res S w Rs v w'):fK args KA S w Rs v w':=by
 obtain⟨S',Rr,vs,q1,q2,q3,q4,q5,q6,q7,q8,q9⟩:=hq.p;obtain⟨rl,rg⟩:=hr.1.get;have CT:∀(k sz:Nat) (rows:Rows),KA.aT[k]?=some (.own sz rows)->res.aT[k]?=some (.own sz rows):=by
  intro k sz rows hk;obtain⟨t,e1,e2⟩:=rg k _ hk;rw[e1,e2.own]
 refine⟨S',Rr,vs,by rw[q1,rl],q2,q3,q4,q5,fun k r hk=>?_,fun k sz rows hk=>q7 k sz rows (CT _ _ _ hk),fun k l sz kX rows dv cY hk hl=>q8 k l sz kX rows dv cY (CT _ _ _ hk) (CT _ _ _ hl),fun i au hi=>?_⟩
 ·obtain⟨t,e1,e2⟩:=rg k r hk
  obtain⟨u,e3,e4⟩:=q6 k t e1;refine⟨u,e3,?_⟩;cases r with
  | own sz rows=>rw[e2.own]at e4;exact e4
  | val y=>
   cases t with
   | own=>cases e2
   | val x=>exact je.rep e2 e4
 ·obtain⟨arg,b0,e1,e2,e3,e4,e5,e6⟩:=q9 i au (by rw[hr.2];exact hi)
  exact⟨arg,b0,e1,e2,e3,e4,e5,fun k sz rows hk=>e6 k sz rows (CT _ _ _ hk)⟩
theorem ah.Fw {P:Program} {f:FuncId} {args xk:List Arg} {res KA:mB} (ha:dX args xk) (hr:ak res KA) (h:ah P f xk res):ah P f args KA:=by
 refine⟨h.1,fun S w aT Rs hp=>?_⟩;obtain⟨al,ag⟩:=ha.get;have hex:∀(i:Nat) (arg:Arg) (au:aC),xk[i]?=some arg->arg.au=some au->∃Wq,args[i]?=some Wq/\Wq.au=some au:=by
  intro i arg au h1 h2;obtain⟨t,e1,e2⟩:=ag i arg h1;exact⟨t,e1,by rw[e2.au];exact h2⟩
 have hp':oj xk S w aT Rs:=by
  refine⟨by rw[hp.len,al],fun i arg hi=>?_,hp.sN,fun i arg au h1 h2=>?_,fun i j x y b b' cY h1 h2 h3 h4=>?_,fun i f aK v hi hv=>?_⟩
  ·obtain⟨t,e1,e2⟩:=ag i arg hi
   obtain⟨v,e3,e4⟩:=hp.ok i t e1;refine⟨v,e3,?_⟩;cases t with
   | val x=>
    cases arg with
    | val y=>exact je.rep e2 e4
    | _=>cases e2
   | _=>cases e2;exact e4
  ·obtain⟨a0,e1,e2⟩:=hex i arg au h1 h2
   exact hp.ext i a0 au e1 e2
  ·obtain⟨a0,e1,e2⟩:=hex i x b h1 h3
   obtain⟨a1,e3,e4⟩:=hex j y b' h2 h4;exact hp.mz i j a0 a1 b b' cY e1 e3 e2 e4
  ·obtain⟨t,e1,e2⟩:=ag i _ hi
   rw[<-ha.βA Rs];cases t with
   | dy f' adI=>cases e2;exact hp.dy i _ _ v e1 hv
   | _=>cases e2
 rw[ha.nv];refine(h.2 S w aT Rs hp').mono ?_
 rintro e w' ⟨v,rfl,hq⟩
 refine⟨v,rfl,?_⟩;have Ws:fK args res S w Rs v w':=by
  obtain⟨S',Rr,vs,q1,q2,q3,q4,q5,q6,q7,q8,q9⟩:=hq.p;rw[<-ha.Kk Rs]at q3 q5 q7;refine⟨S',Rr,vs,q1,q2,q3,q4,q5,q6,q7,q8,fun i au hi=>?_⟩;obtain⟨arg,b0,e1,e2,e3⟩:=q9 i au hi;obtain⟨a0,e7,e8⟩:=hex i arg b0 e1 e2;exact⟨a0,b0,e7,e8,e3⟩
 exact Ws.Fw hr
theorem ah.M0 {P:Program} {C:eh} (hC:bq P C) {f:FuncId} {fn:Func} {c:Code} {args:List Arg} {res:mB} {om:List Mode} (jm:P.funcs[f]?=some fn) (fb:(fn.name == "runtime.NumGoroutine")=false) (dB:fn.body=some c)
  (cZ:dH P args.length c (fQ args fn.ntmps) fun e s=>(e=.normal∨e=.ret)/\∃r,ak r res/\finish C s args fn.results.toList om=some r):ah P f args res:=by
 refine⟨⟨fn,jm,by rw[dB];rfl,fb⟩,fun S w aT Rs hp=>(pc hC (R:=fun r=>ak r res) (om:=om) jm dB cZ S w aT Rs hp).mono ?_⟩
 rintro e w' ⟨v,r,h1,h2,h3⟩
 exact⟨v,h1,h3.Fw h2⟩
def W (k:IntKind) (l:List Int):Rows:=l.map fun x=>[.v (.int k x)]
structure Std (P:Program) (n0:Nat) (zD:IntKind->Int->Int) (zE:Int->Int->Int) (zG:Int->Int->Int) (zH:Int->Int->Int) (zI:Int->Int->Int) (zJ:Int->Int->Int) (zK:IntKind->Int->Int->Int) (zM:IntKind->Int->Int->Int) (zN:IntKind->Int->Int->Int) (zO:IntKind->Int->Int->Int) (zR:IntKind->Int->Int->Int) (zS:IntKind->Int->Int->Int) (zT:Int->Int->Bool) (zU:Int->Int->Bool) (zV:Int->Int->Bool) (zX:Int->Int->Bool) (zY:Bool->Bool) (zZ:Bool->Bool->Bool) (zg:Bool->Bool->Bool) (zh:Int->Int->Int) (zj:Int->Int->Int) (zu:Int->Nat) (zy:Int->Nat->Bool) (zz:Nat->Int) (bd:Nat->Int->Nat) (ao:Nat->Nat->Bool) (aJ:Nat->Nat->Nat) (bN:Int->Int->Nat) (bE:Int->Int->Nat->Bool) (aO:Nat->Nat->Nat->Bool) (aR:Int->Int->Nat->Bool) (ab:Rows->Nat) (aD:Rows->Nat->Option (List Tree)) (bz:Rows->Nat->List Tree->Rows) (aL:IntKind->Rows->Nat->Bool) (aw:Rows->Nat->Int) (aP:IntKind->Rows->Nat->Int->Rows) (a9:Nat->Nat->Rows->Bool) (aE:Rows->Nat->Nat->Rows) (bQ:Rows->Nat->Rows->Rows) (bA:Rows->Nat->Rows->Rows) (bO:Nat->List Tree->Rows) (aN:Nat->Rows->Bool) (dc:List Bool->Bool) (de:List (Value×Tree)->Value->Bool) (bg:List (Value×Tree)->Value->Bool) (bc:List (Value×Tree)->Value->Tree->List (Value×Tree)) (bX:Rows->Option ByteArray) (aY:List (Value×Tree)->Value->Option (Option Tree)) (zW:IntKind->List Int->Rows) (lK:(α:Type)->(Unit->α)->α) (A:FuncId->Ask->pf->Prop) (L:Code->St->(bf->ST->Prop)->Prop):Prop where
 wrap:∀(a:IntKind) (b:Int),zD a b=a.wrap b
 add:∀(a:Int) (b:Int),zE a b=a+b
 sub:∀(a:Int) (b:Int),zG a b=a-b
 mul:∀(a:Int) (b:Int),zH a b=a*b
 quo:∀(a:Int) (b:Int),zI a b=a.tdiv b
 rem:∀(a:Int) (b:Int),zJ a b=a.tmod b
 shl:∀(a:IntKind) (b:Int) (c:Int),zK a b c=a.wrap (b*2^(Min.min c.toNat a.bits))
 shr:∀(a:IntKind) (b:Int) (c:Int),zM a b c=b.fdiv (2^(Min.min c.toNat a.bits))
 kI:∀(a:IntKind) (b:Int) (c:Int),zN a b c=a.wrap ((BitVec.ofInt a.bits b &&& BitVec.ofInt a.bits c).toNat)
 fj:∀(a:IntKind) (b:Int) (c:Int),zO a b c=a.wrap ((BitVec.ofInt a.bits b ||| BitVec.ofInt a.bits c).toNat)
 MV:∀(a:IntKind) (b:Int) (c:Int),zR a b c=a.wrap ((BitVec.ofInt a.bits b ^^^ BitVec.ofInt a.bits c).toNat)
 Fk:∀(a:IntKind) (b:Int) (c:Int),zS a b c=a.wrap ((BitVec.ofInt a.bits b &&& ~~~ BitVec.ofInt a.bits c).toNat)
 eq:∀(a:Int) (b:Int),zT a b=decide (a=b)
 ne:∀(a:Int) (b:Int),zU a b=decide (a≠b)
 lt:∀(a:Int) (b:Int),zV a b=decide (a<b)
 le:∀(a:Int) (b:Int),zX a b=decide (a<=b)
 not:∀(a:Bool),zY a=!a
 beq:∀(a:Bool) (b:Bool),zZ a b=(a==b)
 bne:∀(a:Bool) (b:Bool),zg a b=!(a==b)
 max:∀(a:Int) (b:Int),zh a b=if b>a then b else a
 min:∀(a:Int) (b:Int),zj a b=if b<a then b else a
 nat:∀(a:Int),zu a=a.toNat
 yF:∀(a:Int) (b:Nat),zy a b=decide (0<=a/\a<b)
 aB:∀(a:Nat),zz a=(a:Int)
 idx:∀(a:Nat) (b:Int),bd a b=a+b.toNat
 neq:∀(a:Nat) (b:Nat),ao a b=decide (a=b)
 fH:∀(a:Nat) (b:Nat),aJ a b=a+b
 Kv:∀(a:Int) (b:Int),bN a b=a.toNat-b.toNat
 cut:∀(a:Int) (b:Int) (c:Nat),bE a b c=decide (0<=a/\a<=b/\b<=c)
 room:∀(a:Nat) (b:Nat) (c:Nat),aO a b c=decide ((a+b)*c<=az)
 nq:∀(a:Int) (b:Int) (c:Nat),aR a b c=decide (0<=a/\a<=b/\b*c<=az)
 len:∀(a:Rows),ab a=a.length
 nth:∀(a:Rows) (b:Nat),aD a b=a[b]?
 Fl:∀(a:Rows) (b:Nat) (c:List Tree),bz a b c=a.set b c
 gE:∀(a:IntKind) (b:Rows) (c:Nat),aL a b c=ZI.bV.gE a b c
 dF:∀(a:Rows) (b:Nat),aw a b=ZI.bV.dF a b
 oP:∀(a:IntKind) (b:Rows) (c:Nat) (d:Int),aP a b c d=b.set c [.v (.int a d)]
 fit:∀(a:Nat) (b:Nat) (c:Rows),a9 a b c=decide (a+b<=c.length)
 part:∀(a:Rows) (b:Nat) (c:Nat),aE a b c=(a.drop b).take c
 ext:∀(a:Rows) (b:Nat) (c:Rows),bQ a b c=a.drop b++c
 yG:∀(a:Rows) (b:Nat) (c:Rows),bA a b c=aX a b c
 rep:∀(a:Nat) (b:List Tree),bO a b=List.replicate a b
 wide:∀(a:Nat) (b:Rows),aN a b=b.all fun r=>r.length==a
 all:∀(a:List Bool),dc a=a.all id
 Py:∀(a:List (Value×Tree)) (b:Value),de a b=ZI.bV.Py a b
 Fm:∀(a:List (Value×Tree)) (b:Value),bg a b=ZI.bV.Fm a b
 Kw:∀(a:List (Value×Tree)) (b:Value) (c:Tree),bc a b c=(fV b c a).getD a
 str:∀(a:Rows),bX a=ZI.bV.str a
 find:∀(a:List (Value×Tree)) (b:Value),aY a b=cX b a
 W:zW=W
 th:∀(α:Type) (f:Unit->α),lK α f=f ()
 a:A=kH P
 l:L=Fv P n0
section
variable {P:Program} {C:eh} {n0:Nat} {zD:IntKind->Int->Int} {zE zG zH zI zJ:Int->Int->Int} {zK zM zN zO zR zS:IntKind->Int->Int->Int} {zT zU zV zX:Int->Int->Bool} {zY:Bool->Bool} {zZ zg:Bool->Bool->Bool} {zh zj:Int->Int->Int} {zu:Int->Nat} {zy:Int->Nat->Bool} {zz:Nat->Int} {bd:Nat->Int->Nat} {ao:Nat->Nat->Bool} {aJ:Nat->Nat->Nat} {bN:Int->Int->Nat} {bE:Int->Int->Nat->Bool} {aO:Nat->Nat->Nat->Bool} {aR:Int->Int->Nat->Bool} {ab:Rows->Nat} {aD:Rows->Nat->Option (List Tree)} {bz:Rows->Nat->List Tree->Rows} {aL:IntKind->Rows->Nat->Bool} {aw:Rows->Nat->Int} {aP:IntKind->Rows->Nat->Int->Rows} {a9:Nat->Nat->Rows->Bool} {aE:Rows->Nat->Nat->Rows} {bQ bA:Rows->Nat->Rows->Rows} {bO:Nat->List Tree->Rows} {aN:Nat->Rows->Bool} {dc:List Bool->Bool} {de bg:List (Value×Tree)->Value->Bool} {bc:List (Value×Tree)->Value->Tree->List (Value×Tree)} {bX:Rows->Option ByteArray} {aY:List (Value×Tree)->Value->Option (Option Tree)} {zW:IntKind->List Int->Rows} {lK:(α:Type)->(Unit->α)->α} {A:FuncId->Ask->pf->Prop} {L:Code->St->(bf->ST->Prop)->Prop}
theorem Std.z (h:Std P n0 zD zE zG zH zI zJ zK zM zN zO zR zS zT zU zV zX zY zZ zg zh zj zu zy zz bd ao aJ bN bE aO aR ab aD bz aL aw aP a9 aE bQ bA bO aN dc de bg bc bX aY zW lK A L):ZI.mk zD zE zG zH zI zJ zK zM zN zO zR zS zT zU zV zX zY zZ zg zh zj zu zy zz bd ao aJ bN bE aO aR ab aD bz aL aw aP a9 aE bQ bA bO aN dc de bg bc bX aY=ZI.bV:=by
 obtain rfl:zD=(fun(a:IntKind) (b:Int)=>a.wrap b):=by funext a b;exact h.wrap ..
 obtain rfl:zE=(fun(a:Int) (b:Int)=>a+b):=by funext a b;exact h.add ..
 obtain rfl:zG=(fun(a:Int) (b:Int)=>a-b):=by funext a b;exact h.sub ..
 obtain rfl:zH=(fun(a:Int) (b:Int)=>a*b):=by funext a b;exact h.mul ..
 obtain rfl:zI=(fun(a:Int) (b:Int)=>a.tdiv b):=by funext a b;exact h.quo ..
 obtain rfl:zJ=(fun(a:Int) (b:Int)=>a.tmod b):=by funext a b;exact h.rem ..
 obtain rfl:zK=(fun(a:IntKind) (b:Int) (c:Int)=>a.wrap (b*2^(Min.min c.toNat a.bits))):=by funext a b c;exact h.shl ..
 obtain rfl:zM=(fun(a:IntKind) (b:Int) (c:Int)=>b.fdiv (2^(Min.min c.toNat a.bits))):=by funext a b c;exact h.shr ..
 obtain rfl:zN=(fun(a:IntKind) (b:Int) (c:Int)=>a.wrap ((BitVec.ofInt a.bits b &&& BitVec.ofInt a.bits c).toNat)):=by funext a b c;exact h.kI ..
 obtain rfl:zO=(fun(a:IntKind) (b:Int) (c:Int)=>a.wrap ((BitVec.ofInt a.bits b ||| BitVec.ofInt a.bits c).toNat)):=by funext a b c;exact h.fj ..
 obtain rfl:zR=(fun(a:IntKind) (b:Int) (c:Int)=>a.wrap ((BitVec.ofInt a.bits b ^^^ BitVec.ofInt a.bits c).toNat)):=by funext a b c;exact h.MV ..
 obtain rfl:zS=(fun(a:IntKind) (b:Int) (c:Int)=>a.wrap ((BitVec.ofInt a.bits b &&& ~~~ BitVec.ofInt a.bits c).toNat)):=by funext a b c;exact h.Fk ..
 obtain rfl:zT=(fun(a:Int) (b:Int)=>decide (a=b)):=by funext a b;exact h.eq ..
 obtain rfl:zU=(fun(a:Int) (b:Int)=>decide (a≠b)):=by funext a b;exact h.ne ..
 obtain rfl:zV=(fun(a:Int) (b:Int)=>decide (a<b)):=by funext a b;exact h.lt ..
 obtain rfl:zX=(fun(a:Int) (b:Int)=>decide (a<=b)):=by funext a b;exact h.le ..
 obtain rfl:zY=(fun(a:Bool)=>!a):=by funext a;exact h.not ..
 obtain rfl:zZ=(fun(a:Bool) (b:Bool)=>(a==b)):=by funext a b;exact h.beq ..
 obtain rfl:zg=(fun(a:Bool) (b:Bool)=>!(a==b)):=by funext a b;exact h.bne ..
 obtain rfl:zh=(fun(a:Int) (b:Int)=>if b>a then b else a):=by funext a b;exact h.max ..
 obtain rfl:zj=(fun(a:Int) (b:Int)=>if b<a then b else a):=by funext a b;exact h.min ..
 obtain rfl:zu=(fun(a:Int)=>a.toNat):=by funext a;exact h.nat ..
 obtain rfl:zy=(fun(a:Int) (b:Nat)=>decide (0<=a/\a<b)):=by funext a b;exact h.yF ..
 obtain rfl:zz=(fun(a:Nat)=>(a:Int)):=by funext a;exact h.aB ..
 obtain rfl:bd=(fun(a:Nat) (b:Int)=>a+b.toNat):=by funext a b;exact h.idx ..
 obtain rfl:ao=(fun(a:Nat) (b:Nat)=>decide (a=b)):=by funext a b;exact h.neq ..
 obtain rfl:aJ=(fun(a:Nat) (b:Nat)=>a+b):=by funext a b;exact h.fH ..
 obtain rfl:bN=(fun(a:Int) (b:Int)=>a.toNat-b.toNat):=by funext a b;exact h.Kv ..
 obtain rfl:bE=(fun(a:Int) (b:Int) (c:Nat)=>decide (0<=a/\a<=b/\b<=c)):=by funext a b c;exact h.cut ..
 obtain rfl:aO=(fun(a:Nat) (b:Nat) (c:Nat)=>decide ((a+b)*c<=az)):=by funext a b c;exact h.room ..
 obtain rfl:aR=(fun(a:Int) (b:Int) (c:Nat)=>decide (0<=a/\a<=b/\b*c<=az)):=by funext a b c;exact h.nq ..
 obtain rfl:ab=(fun(a:Rows)=>a.length):=by funext a;exact h.len ..
 obtain rfl:aD=(fun(a:Rows) (b:Nat)=>a[b]?):=by funext a b;exact h.nth ..
 obtain rfl:bz=(fun(a:Rows) (b:Nat) (c:List Tree)=>a.set b c):=by funext a b c;exact h.Fl ..
 obtain rfl:aL=(fun(a:IntKind) (b:Rows) (c:Nat)=>ZI.bV.gE a b c):=by funext a b c;exact h.gE ..
 obtain rfl:aw=(fun(a:Rows) (b:Nat)=>ZI.bV.dF a b):=by funext a b;exact h.dF ..
 obtain rfl:aP=(fun(a:IntKind) (b:Rows) (c:Nat) (d:Int)=>b.set c [.v (.int a d)]):=by funext a b c d;exact h.oP ..
 obtain rfl:a9=(fun(a:Nat) (b:Nat) (c:Rows)=>decide (a+b<=c.length)):=by funext a b c;exact h.fit ..
 obtain rfl:aE=(fun(a:Rows) (b:Nat) (c:Nat)=>(a.drop b).take c):=by funext a b c;exact h.part ..
 obtain rfl:bQ=(fun(a:Rows) (b:Nat) (c:Rows)=>a.drop b++c):=by funext a b c;exact h.ext ..
 obtain rfl:bA=(fun(a:Rows) (b:Nat) (c:Rows)=>aX a b c):=by funext a b c;exact h.yG ..
 obtain rfl:bO=(fun(a:Nat) (b:List Tree)=>List.replicate a b):=by funext a b;exact h.rep ..
 obtain rfl:aN=(fun(a:Nat) (b:Rows)=>b.all fun r=>r.length==a):=by funext a b;exact h.wide ..
 obtain rfl:dc=(fun(a:List Bool)=>a.all id):=by funext a;exact h.all ..
 obtain rfl:de=(fun(a:List (Value×Tree)) (b:Value)=>ZI.bV.Py a b):=by funext a b;exact h.Py ..
 obtain rfl:bg=(fun(a:List (Value×Tree)) (b:Value)=>ZI.bV.Fm a b):=by funext a b;exact h.Fm ..
 obtain rfl:bc=(fun(a:List (Value×Tree)) (b:Value) (c:Tree)=>(fV b c a).getD a):=by funext a b c;exact h.Kw ..
 obtain rfl:bX=(fun(a:Rows)=>ZI.bV.str a):=by funext a;exact h.str ..
 obtain rfl:aY=(fun(a:List (Value×Tree)) (b:Value)=>cX b a):=by funext a b;exact h.find ..
 rfl
theorem Std.call (h:Std P n0 zD zE zG zH zI zJ zK zM zN zO zR zS zT zU zV zX zY zZ zg zh zj zu zy zz bd ao aJ bN bE aO aR ab aD bz aL aw aP a9 aE bQ bA bO aN dc de bg bc bX aY zW lK A L) {f:FuncId} {args:List Arg} {res:mB} (hc:ah P f args res):A f (.a args) (.a res):=by rw[h.a];exact hc
theorem Std.Rq (h:Std P n0 zD zE zG zH zI zJ zK zM zN zO zR zS zT zU zV zX zY zZ zg zh zj zu zy zz bd ao aJ bN bE aO aR ab aD bz aL aw aP a9 aE bQ bA bO aN dc de bg bc bX aY zW lK A L) {f:FuncId} {args xk:List Arg} {res:mB} (hc:ah P f xk res) (ha:dX args xk):A f (.a args) (.a res):=by rw[h.a];exact hc.Fw ha (ak.refl _)
def fR (Z:ZI):Nat->List Arg->List AV
 | _,[]=>[]
 | i,.val x::as=>x.av::fR Z (i+1) as
 | i,.fj _ rows::as=>.c (.sl i 0 (Z.len rows) false)::fR Z (i+1) as
 | i,.own _ rows::as=>.c (.sl i 0 (Z.len rows) false)::fR Z (i+1) as
 | i,.ref _::as=>.c (.ptr i 0 0)::fR Z (i+1) as
 | i,.dy f aK::as=>.c (.dy f aK)::fR Z (i+1) as
 | _,.gh _::_=>[]
def kL (Z:ZI) (args:List Arg) (ntmps:Nat):St:=⟨fR Z 0 args++List.replicate (ntmps-kE args) .af,args.map Arg.au⟩
theorem gz:∀(i:Nat) (l:List Arg),fR ZI.bV i l=dA i l
 | _,[]=>rfl
 | i,.val x::as=>by simp only[fR,dA,gz (i+1) as]
 | i,.fj _ rows::as=>by simp only[fR,dA,gz (i+1) as];rfl
 | i,.own _ rows::as=>by simp only[fR,dA,gz (i+1) as];rfl
 | i,.ref _::as=>by simp only[fR,dA,gz (i+1) as]
 | i,.dy _ _::as=>by simp only[fR,dA,gz (i+1) as]
 | _,.gh _::_=>rfl
theorem Dj (l:List Arg) (n:Nat):kL ZI.bV l n=fQ l n:=by unfold kL fQ;rw[gz]
def HI (Z:ZI) (h:Hp) (i:Nat):Arg->OZ (Option aC)
 | .fj sz rows=>match h i with
  | some (.rows kX r false false)=>if kX=sz then some ([Z.neq (Z.len r) (Z.len rows)],some (.rows sz r false false)) else none
  | _=>none
 | .ref cells=>match h i with
  | some (.var cs)=>match bL h cs with
   | some (_,[])=>if cs.length=cells.length then some ([],some (.var cs)) else none
   | _=>none
  | _=>none
 | .gh cells=>match h i with
  | some (.var cs)=>match bL h cs with
   | some (_,[])=>if cs.length=cells.length then some ([],some (.var cs)) else none
   | _=>none
  | _=>none
 | _=>some ([],none)
def vN (Z:ZI) (h:Hp):Nat->List Arg->OZ (List (Option aC))
 | _,[]=>some ([],[])
 | i,a::as=>match HI Z h i a,vN Z h (i+1) as with
  | some (o,x),some (os,xs)=>some (o++os,x::xs)
  | _,_=>none
def qe (C:eh) (st:ST):ResultVar->Option AV
 | .tmp t=>some (st.get (.tmp t))
 | .cell a t=>match C.ty t,st.get (.tmp a) with
  | some ti,.c (.ptr b 0 c)=>match look st.heap b with
   | some (.var cells)=>dk ti cells c
   | _=>none
  | _,_=>none
theorem xl {C:eh} {st:ST} (h:st.ok) (r:ResultVar):qe C st r=gn C st.fI r:=by
 cases r with
 | tmp t=>simp only[qe,gn,<-ST.get_eq st h];rfl
 | cell a t=>simp only[qe,gn,<-ST.get_eq st h,ST.oz];rfl
def yK (Z:ZI) (C:eh) (st:ST) (args:List Arg) (LU:List ResultVar) (om:List Mode) (F:mB->Prop):Prop:=
 match LU.mapM (qe C st) with
 | none=>False
 | some bI=>
  match kK Z (look st.heap) om bI with
  | none=>False
  | some (ob,as,marks,dQ)=>
   match dQ.filterMap bH.id with
   | is=>
   if decide is.Nodup&&is.all (fun i=>!(ids marks).contains i)&&is.all (fun i=>match args[i]? with|some a=>!a.Kk|none=>true) then
    match as.mapM Arg.rc,vN Z (look (eK st.heap marks)) 0 args with
    | some Kl,some (UE,outs)=>nr (ob++UE) (F ⟨Kl,outs⟩)
    | _,_=>False
   else False
theorem HJ {h:Hp} {i:Nat} {x:Arg} {o:List Bool} {b:Option aC} (e:HI ZI.bV h i x=some (o,b)) (ho:fE o):oZ h i x=some b:=by
 unfold HI at e;unfold oZ;split at e
 ·split at e
  ·rename_i hb
   split at e
   ·rename_i dS
    cases e;have:=iX ho;simp only[ZI.bV,decide_eq_true_eq]at this;simp only[hb];rw[if_pos ⟨dS,this⟩]
   ·cases e
  ·cases e
 ·split at e
  ·rename_i hb
   simp only[hb];split at e
   ·rename_i ht
    split at e
    ·rename_i dS
     cases e;simp only[ht];rw[if_pos dS]
    ·cases e
   ·cases e
  ·cases e
 ·split at e
  ·rename_i hb
   simp only[hb];split at e
   ·rename_i ht
    split at e
    ·rename_i dS
     cases e;simp only[ht];rw[if_pos dS]
    ·cases e
   ·cases e
  ·cases e
 ·rename_i n1 n2 n3
  cases e;split
  ·rename_i sz rows;exact absurd rfl (n1 _ _)
  ·rename_i cells;exact absurd rfl (n2 _)
  ·rename_i cells;exact absurd rfl (n3 _)
  ·rfl
theorem uK {h:Hp}:∀ {i:Nat} {l:List Arg} {o:List Bool} {b:List (Option aC)},vN ZI.bV h i l=some (o,b)->fE o->pU h i l=some b
 | i,[],o,b,e,ho=>by cases e;rfl
 | i,a::as,o,b,e,ho=>by
  unfold vN at e;split at e
  ·rename_i h1 h2
   cases e;obtain⟨p,q⟩:=fM ho;simp only[pU,HJ h1 p,uK h2 q]
  ·cases e
theorem Fx {st:ST} (dN:st.ok) {args:List Arg} {LU:List ResultVar} {om:List Mode} {F:mB->Prop} (h:yK ZI.bV C st args LU om F):∃r,F r/\finish C st.fI args LU om=some r:=by
 unfold yK at h;unfold finish;unfold rj;rw[show qe C st=gn C st.fI from funext fun r=>xl dN r]at h;rw[ST.oz];split at h
 ·exact h.elim
 ·rename_i bI Hy
  split at h
  ·exact h.elim
  ·rename_i ob as marks dQ hp
   simp only at h;split at h
   ·rename_i hc
    split at h
    ·rename_i Kl UE outs h1 h2
     obtain⟨h3,h4⟩:=OK h;obtain⟨a,b⟩:=fM h3;refine⟨_,h4,?_⟩;simp only[Hy,iw hp a];refine(if_pos hc).trans ?_;simp only[h1,uK h2 b]
    ·exact h.elim
   ·exact h.elim
theorem fN (hC:bq P C) (eS:P.follows .mixedOrders=true) (hS:Std P n0 zD zE zG zH zI zJ zK zM zN zO zR zS zT zU zV zX zY zZ zg zh zj zu zy zz bd ao aJ bN bE aO aR ab aD bz aL aw aP a9 aE bQ bA bO aN dc de bg bc bX aY zW lK A L) {c:Code} {st:St} {Q:bf->ST->Prop} (I:Nat->St->Prop) {n:Nat} {s0:St} (hl:st.Le s0) (hb:s0.aM=true) (hk:n0<=s0.heap.length) (h0:I n s0)
  (round:∀n s,I n s->dJ (ZI.mk zD zE zG zH zI zJ zK zM zN zO zR zS zT zU zV zX zY zZ zg zh zj zu zy zz bd ao aJ bN bE aO aR ab aD bz aL aw aP a9 aE bQ bA bO aN dc de bg bc bX aY) C A L c (ST.lI s) fun e s=>match e with
   | .normal=>match s.fI with
    | ⟨t,h⟩=>∃s',(St.mk t h).Le s'/\s'.aM=true/\n0<=s'.heap.length/\∃m,m<n/\I m s'
   | .exit id=>Q (.exit id) s
   | .ret=>Q .ret s):L c st Q:=by
 rw[hS.z,hS.a,hS.l]at round;rw[hS.l];refine fun hT=>rD.intro hC eS I hl hb hk h0 fun n s hI=>?_
 have:=fZ c _ (ST.lJ s) hT (round n s hI);rw[ST.ib]at this;refine Rp c s this fun e s1 h1=>?_
 obtain⟨s',ho,rfl,h2⟩:=h1;cases e with
 | normal=>exact h2
 | exit id=>exact⟨s',ho,rfl,h2⟩
 | ret=>exact⟨s',ho,rfl,h2⟩
theorem ar (hC:bq P C) (eS:P.follows .mixedOrders=true) {f:FuncId} {fn:Func} {c:Code} {args:List Arg} {res:mB} (om:List Mode) (jm:P.funcs[f]?=some fn) (fb:(fn.name == "runtime.NumGoroutine")=false) (dB:fn.body=some c) (hT:iY c=true)
  (h:∀(zD:IntKind->Int->Int) (zE zG zH zI zJ:Int->Int->Int) (zK zM zN zO zR zS:IntKind->Int->Int->Int) (zT zU zV zX:Int->Int->Bool) (zY:Bool->Bool) (zZ zg:Bool->Bool->Bool) (zh zj:Int->Int->Int) (zu:Int->Nat) (zy:Int->Nat->Bool) (zz:Nat->Int) (bd:Nat->Int->Nat) (ao:Nat->Nat->Bool) (aJ:Nat->Nat->Nat) (bN:Int->Int->Nat) (bE:Int->Int->Nat->Bool) (aO:Nat->Nat->Nat->Bool) (aR:Int->Int->Nat->Bool) (ab:Rows->Nat) (aD:Rows->Nat->Option (List Tree)) (bz:Rows->Nat->List Tree->Rows) (aL:IntKind->Rows->Nat->Bool) (aw:Rows->Nat->Int) (aP:IntKind->Rows->Nat->Int->Rows) (a9:Nat->Nat->Rows->Bool) (aE:Rows->Nat->Nat->Rows) (bQ bA:Rows->Nat->Rows->Rows) (bO:Nat->List Tree->Rows) (aN:Nat->Rows->Bool) (dc:List Bool->Bool) (de bg:List (Value×Tree)->Value->Bool) (bc:List (Value×Tree)->Value->Tree->List (Value×Tree)) (bX:Rows->Option ByteArray) (aY:List (Value×Tree)->Value->Option (Option Tree)) (zW:IntKind->List Int->Rows) (lK:(α:Type)->(Unit->α)->α) A L (F:mB->Prop),Std P args.length zD zE zG zH zI zJ zK zM zN zO zR zS zT zU zV zX zY zZ zg zh zj zu zy zz bd ao aJ bN bE aO aR ab aD bz aL aw aP a9 aE bQ bA bO aN dc de bg bc bX aY zW lK A L->(∀r,ak r res->F r)->dJ (ZI.mk zD zE zG zH zI zJ zK zM zN zO zR zS zT zU zV zX zY zZ zg zh zj zu zy zz bd ao aJ bN bE aO aR ab aD bz aL aw aP a9 aE bQ bA bO aN dc de bg bc bX aY) C A L c (ST.lI (kL (ZI.mk zD zE zG zH zI zJ zK zM zN zO zR zS zT zU zV zX zY zZ zg zh zj zu zy zz bd ao aJ bN bE aO aR ab aD bz aL aw aP a9 aE bQ bA bO aN dc de bg bc bX aY) args fn.ntmps)) fun e s=>match e with
   | .exit _=>False
   | .normal=>yK (ZI.mk zD zE zG zH zI zJ zK zM zN zO zR zS zT zU zV zX zY zZ zg zh zj zu zy zz bd ao aJ bN bE aO aR ab aD bz aL aw aP a9 aE bQ bA bO aN dc de bg bc bX aY) C s args fn.results.toList om F
   | .ret=>yK (ZI.mk zD zE zG zH zI zJ zK zM zN zO zR zS zT zU zV zX zY zZ zg zh zj zu zy zz bd ao aJ bN bE aO aR ab aD bz aL aw aP a9 aE bQ bA bO aN dc de bg bc bX aY) C s args fn.results.toList om F):ah P f args res:=by
 have key:=h (fun(a:IntKind) (b:Int)=>a.wrap b) (fun(a:Int) (b:Int)=>a+b) (fun(a:Int) (b:Int)=>a-b) (fun(a:Int) (b:Int)=>a*b) (fun(a:Int) (b:Int)=>a.tdiv b) (fun(a:Int) (b:Int)=>a.tmod b) (fun(a:IntKind) (b:Int) (c:Int)=>a.wrap (b*2^(Min.min c.toNat a.bits))) (fun(a:IntKind) (b:Int) (c:Int)=>b.fdiv (2^(Min.min c.toNat a.bits))) (fun(a:IntKind) (b:Int) (c:Int)=>a.wrap ((BitVec.ofInt a.bits b &&& BitVec.ofInt a.bits c).toNat)) (fun(a:IntKind) (b:Int) (c:Int)=>a.wrap ((BitVec.ofInt a.bits b ||| BitVec.ofInt a.bits c).toNat)) (fun(a:IntKind) (b:Int) (c:Int)=>a.wrap ((BitVec.ofInt a.bits b ^^^ BitVec.ofInt a.bits c).toNat)) (fun(a:IntKind) (b:Int) (c:Int)=>a.wrap ((BitVec.ofInt a.bits b &&& ~~~ BitVec.ofInt a.bits c).toNat)) (fun(a:Int) (b:Int)=>decide (a=b)) (fun(a:Int) (b:Int)=>decide (a≠b)) (fun(a:Int) (b:Int)=>decide (a<b)) (fun(a:Int) (b:Int)=>decide (a<=b)) (fun(a:Bool)=>!a) (fun(a:Bool) (b:Bool)=>(a==b)) (fun(a:Bool) (b:Bool)=>!(a==b)) (fun(a:Int) (b:Int)=>if b>a then b else a) (fun(a:Int) (b:Int)=>if b<a then b else a) (fun(a:Int)=>a.toNat) (fun(a:Int) (b:Nat)=>decide (0<=a/\a<b)) (fun(a:Nat)=>(a:Int)) (fun(a:Nat) (b:Int)=>a+b.toNat) (fun(a:Nat) (b:Nat)=>decide (a=b)) (fun(a:Nat) (b:Nat)=>a+b) (fun(a:Int) (b:Int)=>a.toNat-b.toNat) (fun(a:Int) (b:Int) (c:Nat)=>decide (0<=a/\a<=b/\b<=c)) (fun(a:Nat) (b:Nat) (c:Nat)=>decide ((a+b)*c<=az)) (fun(a:Int) (b:Int) (c:Nat)=>decide (0<=a/\a<=b/\b*c<=az)) (fun(a:Rows)=>a.length) (fun(a:Rows) (b:Nat)=>a[b]?) (fun(a:Rows) (b:Nat) (c:List Tree)=>a.set b c) (fun(a:IntKind) (b:Rows) (c:Nat)=>ZI.bV.gE a b c) (fun(a:Rows) (b:Nat)=>ZI.bV.dF a b) (fun(a:IntKind) (b:Rows) (c:Nat) (d:Int)=>b.set c [.v (.int a d)]) (fun(a:Nat) (b:Nat) (c:Rows)=>decide (a+b<=c.length)) (fun(a:Rows) (b:Nat) (c:Nat)=>(a.drop b).take c) (fun(a:Rows) (b:Nat) (c:Rows)=>a.drop b++c) (fun(a:Rows) (b:Nat) (c:Rows)=>aX a b c) (fun(a:Nat) (b:List Tree)=>List.replicate a b) (fun(a:Nat) (b:Rows)=>b.all fun r=>r.length==a) (fun(a:List Bool)=>a.all id) (fun(a:List (Value×Tree)) (b:Value)=>ZI.bV.Py a b) (fun(a:List (Value×Tree)) (b:Value)=>ZI.bV.Fm a b) (fun(a:List (Value×Tree)) (b:Value) (c:Tree)=>(fV b c a).getD a) (fun(a:Rows)=>ZI.bV.str a) (fun(a:List (Value×Tree)) (b:Value)=>cX b a) W (fun(α:Type) (f:Unit->α)=>f ()) (kH P) (Fv P args.length) (fun r=>ak r res) ⟨fun _ _=>rfl,fun _ _=>rfl,fun _ _=>rfl,fun _ _=>rfl,fun _ _=>rfl,fun _ _=>rfl,fun _ _ _=>rfl,fun _ _ _=>rfl,fun _ _ _=>rfl,fun _ _ _=>rfl,fun _ _ _=>rfl,fun _ _ _=>rfl,fun _ _=>rfl,fun _ _=>rfl,fun _ _=>rfl,fun _ _=>rfl,fun _=>rfl,fun _ _=>rfl,fun _ _=>rfl,fun _ _=>rfl,fun _ _=>rfl,fun _=>rfl,fun _ _=>rfl,fun _=>rfl,fun _ _=>rfl,fun _ _=>rfl,fun _ _=>rfl,fun _ _=>rfl,fun _ _ _=>rfl,fun _ _ _=>rfl,fun _ _ _=>rfl,fun _=>rfl,fun _ _=>rfl,fun _ _ _=>rfl,fun _ _ _=>rfl,fun _ _=>rfl,fun _ _ _ _=>rfl,fun _ _ _=>rfl,fun _ _ _=>rfl,fun _ _ _=>rfl,fun _ _ _=>rfl,fun _ _=>rfl,fun _ _=>rfl,fun _=>rfl,fun _ _=>rfl,fun _ _=>rfl,fun _ _ _=>rfl,fun _=>rfl,fun _ _=>rfl,rfl,fun _ _=>rfl,rfl,rfl⟩ (fun r hr=>hr)
 have Wt:fx P C args.length c (kL ZI.bV args fn.ntmps) (MZ fun e s=>match e with
   | .exit _=>False
   | .normal=>yK ZI.bV C s args fn.results.toList om (fun r=>ak r res)
   | .ret=>yK ZI.bV C s args fn.results.toList om (fun r=>ak r res)):=by
  have k0:=fZ c _ (ST.lJ _) hT key;rw[ST.ib]at k0;exact k0
 rw[Dj]at Wt;have S8:=Rp c _ Wt (Q':=fun e s=>(e=.normal∨e=.ret)/\∃r,ak r res/\finish C s args fn.results.toList om=some r) fun e s hs=>by
  obtain⟨s',h1,rfl,hs⟩:=hs;cases e with
  | normal=>exact⟨.inl rfl,Fx h1 hs⟩
  | exit id=>exact hs.elim
  | ret=>exact⟨.inr rfl,Fx h1 hs⟩
 exact ah.M0 hC jm fb dB (fx.run hC eS c _ _ S8)
end
theorem eG {x:Int} (h0:0<=x) (h1:x<2^64):IntKind.wrap .u64 x=x:=by
 have:IntKind.wrap .u64 x=x%2^64:=rfl;rw[this,Int.emod_eq_of_lt h0 h1]
end Go.Abs
end
