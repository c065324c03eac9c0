/-
  A part of the proof: GabsDraw, GabsDraw2, GabsDraw3, GabsRen0, GabsFrz, GabsExec, GabsCfg, GabsK, GabsV1, GabsV2, GabsV3, GabsV4, GabsV5, GabsV6, GabsZ.
-/
import Derived.Orders
import Derived.Test.YtekefilngojelaaGreatM6
import Derived.Test.YtekefilngojelaaGreatM7
set_option maxHeartbeats 0
set_option maxRecDepth 100000
set_option linter.unusedVariables false
set_option linter.unusedSimpArgs false
set_option linter.unusedSectionVars false
section
namespace Go.Abs
def vF (acc:List Nat):List Oper->List Nat
 | []=>acc
 | o::os=>vF (acc ++ [o.after.toList.foldl (fun s e=>if Region.binds .any e then s ||| (2^e.on ||| acc.getD e.on 0) else s) 0]) os
def oX (ops:List Oper) (x y:Oper) (ex ey:bZ):Bool:=
 (match x.dst with|some d=>(lf ops y).contains d||y.dst==some d|none=>false) ||
 (match y.dst with|some d=>(lf ops x).contains d|none=>false) ||
 (ids ex.wr).any (fun b=>(ids ey.wr).contains b||ey.rd.contains b)||ex.rd.any fun b=>(ids ey.wr).contains b
def iX (ops:List Oper) (bd:List bZ):Bool:=
 (List.range ops.length).all fun j=>(((ops.getD j default).after.toList.all fun e=>!Region.binds .any e||decide (e.on<j))) &&
  (List.range j).all fun i=>((vF [] ops).getD j 0).testBit i || !oX ops (ops.getD i default) (ops.getD j default) (bd.getD i {}) (bd.getD j {})
def di (st:St) (ops:List Oper) (bd:List bZ) (E:Nat->Bool):Nat->St
 | 0=>st
 | i+1=>if E i then(di st ops bd E i).app (ops.getD i default) (bd.getD i {}) else di st ops bd E i
section
variable {P:Program} {C:dP} {ops:List Oper} {bd:List bZ} {st:St}
theorem rZ (o:Oper) (os:List Oper) (e:bZ) (es:List bZ) (st:St):∀i,di st (o::os) (e::es) (fun _=>true) (i+1)=di (st.app o e) os es (fun _=>true) i
 | 0=>rfl
 | i+1=>by
  have:=rZ o os e es st i;rw[di,if_pos rfl,this];rfl
theorem CW:∀(os:List Oper) (slot:Nat) (st:St) (tr:List bZ) (Q:List bZ->St->Prop),vw P C ops os slot st tr Q ->
  ∃es:List bZ,es.length=os.length/\(∀i,i<os.length->eU P C ops (slot+bB C (os.take i)) (os.getD i default) (di st os es (fun _=>true) i) (·=es.getD i {}))/\Q (tr++es) (di st os es (fun _=>true) os.length)
 | [],slot,st,tr,Q,h=>⟨[],rfl,by simp,by simpa[di,vw]using h⟩
 | o::os,slot,st,tr,Q,h=>by
  obtain⟨e,h1,h2⟩:=J7 h;obtain⟨es,h3,h4,h5⟩:=CW os _ _ _ _ h2;refine⟨e::es,by simp[h3],fun i hi=>?_,?_⟩
  ·cases i with
   | zero=>simpa[bB,di]using h1
   | succ i=>
    rw[rZ];have:=h4 i (by simpa using hi);simpa[bB,Nat.add_assoc]using this
  ·rw[List.length_cons,rZ]
   simpa using h5
theorem mo (st:St) (o:Oper) (e:bZ) (t:Nat):(st.app o e).tmps[t]?=if o.dst=some t then(if t<st.tmps.length then some e.val else none) else st.tmps[t]?:=by
 unfold St.app;cases hd:o.dst with
 | none=>simp
 | some d=>
  simp only[List.getElem?_set,Option.some.injEq]
  by_cases h:d=t
  ·subst h;simp
  ·rw[if_neg h,if_neg h]
theorem J8 (st:St) (o:Oper) (e:bZ):(st.app o e).tmps.length=st.tmps.length:=by
 unfold St.app;cases o.dst<;>simp
theorem g8:∀(l:List (Nat×Option aU)) (h:bM) (b:Nat),b ∉ ids l->(dZ h l)[b]?=h[b]?
 | [],_,_,_=>rfl
 | p::l,h,b,hn=>by
  simp only[ids,List.map_cons,List.mem_cons,not_or]at hn;rw[gZ,g8 l _ b hn.2,List.getElem?_set,if_neg (fun e=>hn.1 e.symm)]
theorem oY:∀(l:List (Nat×Option aU)) (h h':bM) (b:Nat),h.length=h'.length->b∈ids l->(dZ h l)[b]?=(dZ h' l)[b]?
 | p::l,h,h',b,hl,hb=>by
  rw[gZ,gZ]
  by_cases JR:b∈ids l
  ·exact oY l _ _ b (by simp[hl]) JR
  ·rw[g8 l _ b JR,g8 l _ b JR]
   simp only[ids,List.map_cons,List.mem_cons]at hb;have:b=p.1:=hb.resolve_right JR;subst this;rw[List.getElem?_set,List.getElem?_set,if_pos rfl,if_pos rfl,hl]
theorem fi (E:Nat->Bool):∀m,(di st ops bd E m).tmps.length=st.tmps.length/\(di st ops bd E m).heap.length=st.heap.length
 | 0=>⟨rfl,rfl⟩
 | m+1=>by
  obtain⟨h1,h2⟩:=fi E m;unfold di;split
  ·exact⟨by rw[J8,h1],by rw[vy,h2]⟩
  ·exact⟨h1,h2⟩
theorem nh {E E':Nat->Bool} {t:Nat}:∀m,(∀i,i<m->(ops.getD i default).dst=some t->E i=E' i)->(di st ops bd E m).tmps[t]?=(di st ops bd E' m).tmps[t]?
 | 0,_=>rfl
 | m+1,h=>by
  have ih:=nh m fun i hi=>h i (by omega)
  unfold di
  by_cases hd:(ops.getD m default).dst=some t
  ·rw[h m (by omega) hd]
   split
   ·rw[mo,mo,if_pos hd,if_pos hd,(fi E m).1,(fi E' m).1]
   ·exact ih
  ·have e1:∀(s:St),(s.app (ops.getD m default) (bd.getD m {})).tmps[t]?=s.tmps[t]?:=fun s=>by rw[mo,if_neg hd]
   split<;>split<;>(try simp only[e1])<;>exact ih
theorem ni {E E':Nat->Bool} {b:Nat}:∀m,(∀i,i<m->b∈ids (bd.getD i {}).wr->E i=E' i)->(di st ops bd E m).heap[b]?=(di st ops bd E' m).heap[b]?
 | 0,_=>rfl
 | m+1,h=>by
  have ih:=ni m fun i hi=>h i (by omega)
  unfold di
  by_cases hd:b∈ids (bd.getD m {}).wr
  ·rw[h m (by omega) hd]
   split
   ·exact oY _ _ _ b (by rw[(fi E m).2,(fi E' m).2]) hd
   ·exact ih
  ·have e1:∀(s:St),(s.app (ops.getD m default) (bd.getD m {})).heap[b]?=s.heap[b]?:=fun s=>g8 _ _ b hd
   split<;>split<;>(try simp only[e1])<;>exact ih
theorem mq (E : Nat -> Bool) {i : Nat} : ∀ m, i <= m -> di st ops bd (fun k => E k && decide (k < i)) m = di st ops bd E i
  | 0, h => by have : i = 0 := by omega
               subst this; rfl
  | m + 1, h => by
    rcases Nat.lt_or_ge m i with hm | hm
    · have : i = m + 1 := by omega
      subst this
      have gen : ∀ k, k <= m + 1 -> di st ops bd (fun k => E k && decide (k < m + 1)) k = di st ops bd E k := by
        intro k
        induction k with
        | zero => intro _; rfl
        | succ k ih =>
          intro hk
          unfold di
          rw [ih (by omega)]
          have : decide (k < m + 1) = true := by simp; omega
          simp only [this, Bool.and_true]
      exact gen _ (Nat.le_refl _)
    · have e : di st ops bd (fun k => E k && decide (k < i)) (m + 1) = (if (E m && decide (m < i)) = true then (di st ops bd (fun k => E k && decide (k < i)) m).app (ops.getD m default) (bd.getD m {}) else di st ops bd (fun k => E k && decide (k < i)) m) := rfl
      have : decide (m < i) = false := by simp; omega
      rw [e, this, Bool.and_false, if_neg (by simp)]
      exact mq E m hm
theorem vG {acc:List Nat} {i:Nat}:∀(l:List Edge) (s:Nat),(l.foldl (fun s e=>if Region.binds .any e then s ||| (2^e.on ||| acc.getD e.on 0) else s) s).testBit i=true ->
  s.testBit i=true∨∃e∈l,Region.binds .any e=true/\(e.on=i∨(acc.getD e.on 0).testBit i=true)
 | [],s,h=>.inl h
 | e::l,s,h=>by
  rw[List.foldl_cons]at h;rcases vG l _ h with h1|⟨e',h1,h2,h3⟩
  ·split at h1
   ·rename_i hb
    rw[Nat.testBit_or,Nat.testBit_or,Bool.or_eq_true,Bool.or_eq_true]at h1;rcases h1 with h1|h1|h1
    ·exact .inl h1
    ·rw[Nat.testBit_two_pow]at h1
     exact .inr ⟨e,by simp,hb,.inl (by simpa using h1)⟩
    ·exact .inr ⟨e,by simp,hb,.inr h1⟩
   ·exact .inl h1
  ·exact .inr ⟨e',by simp[h1],h2,h3⟩
theorem ya:∀(os pre:List Oper) (acc:List Nat),acc.length=pre.length ->
  (∀j,j<pre.length->∀i,(acc.getD j 0).testBit i=true->∃e∈(pre.getD j default).after.toList,Region.binds .any e=true/\(e.on=i∨(e.on<j/\(acc.getD e.on 0).testBit i=true))) ->
  ∀j,j<(pre++os).length->∀i,((vF acc os).getD j 0).testBit i=true->∃e∈((pre++os).getD j default).after.toList,Region.binds .any e=true/\(e.on=i∨(e.on<j/\((vF acc os).getD e.on 0).testBit i=true))
 | [],pre,acc,hl,h,j,hj,i,hb=>by simpa[vF]using h j (by simpa using hj) i hb
 | o::os,pre,acc,hl,h,j,hj,i,hb=>by
  have e1:pre++o::os=(pre ++ [o])++os:=by simp
  rw[e1]at hj ⊢;rw[vF]at hb ⊢;refine ya os (pre ++ [o]) _ (by simp[hl]) (fun j hj i hb=>?_) j hj i hb;rw[List.length_append,List.length_singleton]at hj;rcases Nat.lt_or_ge j pre.length with h1|h1
  ·rw[List.getD_eq_getElem?_getD,List.getElem?_append,if_pos (by omega),<-List.getD_eq_getElem?_getD]at hb
   obtain⟨e,q1,q2,q3⟩:=h j h1 i hb;refine⟨e,?_,q2,?_⟩
   ·rw[List.getD_eq_getElem?_getD,List.getElem?_append,if_pos h1,<-List.getD_eq_getElem?_getD];exact q1
   ·rcases q3 with q3|⟨q3,q4⟩
    ·exact .inl q3
    ·refine .inr ⟨q3,?_⟩
     rw[List.getD_eq_getElem?_getD,List.getElem?_append,if_pos (by omega),<-List.getD_eq_getElem?_getD];exact q4
  ·have hjj:j=pre.length:=by omega
   subst hjj;rw[List.getD_eq_getElem?_getD,List.getElem?_append,if_neg (by omega),hl,Nat.sub_self,List.getElem?_cons_zero,Option.getD_some]at hb;rcases vG _ _ hb with h2|⟨e,q1,q2,q3⟩
   ·simp at h2
   ·refine⟨e,?_,q2,?_⟩
    ·rw[List.getD_eq_getElem?_getD,List.getElem?_append,if_neg (by omega),Nat.sub_self,List.getElem?_cons_zero,Option.getD_some];exact q1
    ·rcases q3 with q3|q3
     ·exact .inl q3
     ·have bH:e.on<acc.length:=by
       rcases Nat.lt_or_ge e.on acc.length with h|h
       ·exact h
       ·rw[List.getD_eq_getElem?_getD,List.getElem?_eq_none h]at q3;simp at q3
      refine .inr ⟨by omega,?_⟩;rw[List.getD_eq_getElem?_getD,List.getElem?_append,if_pos bH,<-List.getD_eq_getElem?_getD];exact q3
def oZ (ops:List Oper) (E:Nat->Bool):Prop:=∀j,j<ops.length->E j=true->∀e∈(ops.getD j default).after.toList,Region.binds .any e=true->E e.on=true
theorem oZ.bef {E:Nat->Bool} (h:oZ ops E):∀j,j<ops.length->E j=true->∀i,((vF [] ops).getD j 0).testBit i=true->E i=true:=by
 intro j
 induction j using Nat.strongRecOn with
 | _ j ih=>
  intro hj hE i hb;obtain⟨e,q1,q2,q3⟩:=ya ops [] [] rfl (by simp) j (by simpa using hj) i hb;have he:=h j hj hE e (by simpa using q1) q2;rcases q3 with rfl|⟨q3,q4⟩
  ·exact he
  ·exact ih e.on q3 (by omega) he i q4
end
section
variable {P:Program} {C:dP} {ops:List Oper} {bd:List bZ} {st:St}
theorem Hz {E:Nat->Bool} {t m n:Nat} (EN:m<=n) (h:∀k,m<=k->k<n->(ops.getD k default).dst=some t->E k=false):(di st ops bd E n).tmps[t]?=(di st ops bd E m).tmps[t]?:=by
 rw[<-mq E n EN];refine nh n fun k hk hd=>?_
 rcases Nat.lt_or_ge k m with h1|h1
 ·simp[h1]
 ·rw[h k h1 hk hd];rfl
theorem HA {E:Nat->Bool} {b m n:Nat} (EN:m<=n) (h:∀k,m<=k->k<n->b∈ids (bd.getD k {}).wr->E k=false):(di st ops bd E n).heap[b]?=(di st ops bd E m).heap[b]?:=by
 rw[<-mq E n EN];refine ni n fun k hk hd=>?_
 rcases Nat.lt_or_ge k m with h1|h1
 ·simp[h1]
 ·rw[h k h1 hk hd];rfl
theorem tD (h:iX ops bd=true) {j:Nat} (hj:j<ops.length):∀e∈(ops.getD j default).after.toList,Region.binds .any e=true->e.on<j:=by
 unfold iX at h;have:=List.all_eq_true.1 h j (List.mem_range.2 hj);rw[Bool.and_eq_true]at this;intro e he hb;have:=List.all_eq_true.1 this.1 e he;simpa[hb]using this
theorem CX (h:iX ops bd=true) {i j:Nat} (CN:i<j) (hj:j<ops.length):((vF [] ops).getD j 0).testBit i=true∨oX ops (ops.getD i default) (ops.getD j default) (bd.getD i {}) (bd.getD j {})=false:=by
 unfold iX at h;have:=List.all_eq_true.1 h j (List.mem_range.2 hj);rw[Bool.and_eq_true]at this;have:=List.all_eq_true.1 this.2 i (List.mem_range.2 CN);rw[Bool.or_eq_true]at this;rcases this with h|h
 ·exact .inl h
 ·exact .inr (by simpa using h)
theorem ordered (h:iX ops bd=true) {E:Nat->Bool} (hE:oZ ops E) {i j:Nat} (CN:i<j) (hj:j<ops.length) (Eu:E j=true)
  (hc:oX ops (ops.getD i default) (ops.getD j default) (bd.getD i {}) (bd.getD j {})=true):E i=true:=by
 rcases CX h CN hj with h1|h1
 ·exact hE.bef j hj Eu i h1
 ·rw[hc]at h1;cases h1
theorem Gz {x y:Oper} {ex ey:bZ} {t:Nat} (hd:x.dst=some t) (hu:t∈lf ops y∨y.dst=some t):oX ops x y ex ey=true:=by
 unfold oX;rw[hd];simp only;rcases hu with h|h
 ·have:(lf ops y).contains t=true:=by simpa using h
  rw[this];rfl
 ·rw[h];simp
theorem MD {x y:Oper} {ex ey:bZ} {t:Nat} (hd:y.dst=some t) (hu:t∈lf ops x):oX ops x y ex ey=true:=by
 unfold oX;rw[hd];have:(lf ops x).contains t=true:=by simpa using hu
 simp only[this,Bool.or_true,Bool.true_or]
theorem GA {x y:Oper} {ex ey:bZ} {b:Nat} (hd:b∈ids ex.wr) (hu:b∈ids ey.wr∨b∈ey.rd):oX ops x y ex ey=true:=by
 unfold oX;have:((ids ex.wr).any (fun b=>(ids ey.wr).contains b||ey.rd.contains b))=true:=List.any_eq_true.2 ⟨b,hd,by simpa using hu⟩;rw[this];simp
theorem ME {x y:Oper} {ex ey:bZ} {b:Nat} (hd:b∈ids ey.wr) (hu:b∈ex.rd):oX ops x y ex ey=true:=by
 unfold oX;have:(ex.rd.any (fun b=>(ids ey.wr).contains b))=true:=List.any_eq_true.2 ⟨b,hu,by simpa using hd⟩;rw[this];simp
def qF (E:Nat->Bool) (j:Nat):Nat->Bool:=fun k=>k==j||E k
theorem jt {E:Nat->Bool} {j k:Nat} (h:k≠j):qF E j k=E k:=by simp[qF,h]
theorem qG {E:Nat->Bool} {j:Nat}:qF E j j=true:=by simp[qF]
section
variable {E:Nat->Bool} {j:Nat} (h:iX ops bd=true) (hE:oZ ops E) (um:oZ ops (qF E j)) (hj:j<ops.length) (Eu:E j=false)
include h hE um hj Eu
theorem CY {k:Nat} (hk:k<j) (hc:oX ops (ops.getD k default) (ops.getD j default) (bd.getD k {}) (bd.getD j {})=true):E k=true:=by
 have:=ordered h um hk hj qG hc;rwa[jt (by omega)]at this
theorem qH {k:Nat} (hk:j<k) (Rg:k<ops.length) (hc:oX ops (ops.getD j default) (ops.getD k default) (bd.getD j {}) (bd.getD k {})=true):E k=false:=by
 cases hx:E k with
 | false=>rfl
 | true=>have:=ordered h hE hk Rg hx hc;rw[this]at Eu;cases Eu
theorem HB:∀t∈lf ops (ops.getD j default),(di st ops bd E ops.length).tmps.getD t .aj=(di st ops bd (fun _=>true) j).tmps.getD t .aj:=by
 intro t ht;rw[List.getD_eq_getElem?_getD,List.getD_eq_getElem?_getD,<-mq (fun _=>true) ops.length (Nat.le_of_lt hj)];congr 1;refine nh _ fun k hk hd=>?_
 rcases Nat.lt_trichotomy k j with h1|h1|h1
 ·rw[CY h hE um hj Eu h1 (Gz hd (.inl ht))];simp[h1]
 ·subst h1;rw[Eu];simp
 ·rw[qH h hE um hj Eu h1 hk (MD hd ht)];simp;omega
theorem HC:∀b∈(bd.getD j {}).rd,look (di st ops bd E ops.length).heap b=look (di st ops bd (fun _=>true) j).heap b:=by
 intro b hb;unfold look;rw[<-mq (fun _=>true) ops.length (Nat.le_of_lt hj)];congr 1;refine ni _ fun k hk hd=>?_
 rcases Nat.lt_trichotomy k j with h1|h1|h1
 ·rw[CY h hE um hj Eu h1 (GA hd (.inr hb))];simp[h1]
 ·subst h1;rw[Eu];simp
 ·rw[qH h hE um hj Eu h1 hk (ME hd hb)];simp;omega
theorem J9:(di st ops bd E ops.length).app (ops.getD j default) (bd.getD j {})=di st ops bd (qF E j) ops.length:=by
 have JL:∀t:Nat,((di st ops bd E ops.length).app (ops.getD j default) (bd.getD j {})).tmps[t]?=(di st ops bd (qF E j) ops.length).tmps[t]?:=by
  intro t;rw[mo];split
  ·rename_i hd
   rw[Hz (m:=j+1) (by omega) (fun k h1 h2 h3=>by
    rw[jt (by omega)];exact qH h hE um hj Eu (by omega) h2 (Gz hd (.inr h3)))]
   rw[di,if_pos qG,mo,if_pos hd,(fi _ _).1,(fi _ _).1]
  ·rename_i hd
   refine nh _ fun k hk Xf=>?_
   rw[jt]
   rintro rfl
   exact hd Xf
 have hhl:∀b:Nat,((di st ops bd E ops.length).app (ops.getD j default) (bd.getD j {})).heap[b]?=(di st ops bd (qF E j) ops.length).heap[b]?:=by
  intro b
  by_cases hb:b∈ids (bd.getD j {}).wr
  ·rw[HA (m:=j+1) (by omega) (fun k h1 h2 h3=>by
    rw[jt (by omega)];exact qH h hE um hj Eu (by omega) h2 (GA hb (.inl h3)))]
   rw[di,if_pos qG];exact oY _ _ _ b (by rw[(fi _ _).2,(fi _ _).2]) hb
  ·have e1:((di st ops bd E ops.length).app (ops.getD j default) (bd.getD j {})).heap[b]?=(di st ops bd E ops.length).heap[b]?:=g8 _ _ b hb
   rw[e1];refine ni _ fun k hk Xf=>?_
   rw[jt]
   rintro rfl
   exact hb Xf
 generalize (di st ops bd E ops.length).app (ops.getD j default) (bd.getD j {})=s1 at *;generalize di st ops bd (qF E j) ops.length=s2 at *;cases s1;cases s2;simp only[St.mk.injEq];exact⟨List.ext_getElem? JL,List.ext_getElem? hhl⟩
end
def left (E:Nat->Bool):Nat->Nat
 | 0=>0
 | n+1=>left E n+if E n then 0 else 1
theorem CZ {E:Nat->Bool} {j:Nat} (Eu:E j=false):∀n,(n<=j->left (qF E j) n=left E n)/\(j<n->left (qF E j) n+1=left E n)
 | 0=>⟨fun _=>rfl,fun h=>by omega⟩
 | n+1=>by
  obtain⟨h1,h2⟩:=CZ Eu n;refine⟨fun h=>?_,fun h=>?_⟩
  ·rw[left,left,h1 (by omega),jt (by omega)]
  ·rw[left,left]
   by_cases hjn:n=j
   ·subst hjn
    rw[h1 (Nat.le_refl _),qG,Eu];simp
   ·rw[jt hjn,<-h2 (by omega)];omega
theorem yb {E:Nat->Bool}:∀n,left E n=0->∀k,k<n->E k=true
 | 0,_,k,hk=>by omega
 | n+1,h,k,hk=>by
  rw[left]at h
  by_cases Rg:k=n
  ·subst Rg
   cases hx:E k with
   | true=>rfl
   | false=>rw[hx]at h;simp at h
  ·exact yb n (by omega) k (by omega)
theorem ko:∀(l:List Oper) (k:Nat),k<l.length->bB C (l.take (k+1))=bB C (l.take k)+slotsOf C (l.getD k default).op
 | o::l,0,_=>by simp[bB]
 | o::l,k+1,h=>by
  have:=ko l k (by simpa using h);simp only[List.take_succ_cons,bB,List.getD_cons_succ]at this ⊢;omega
theorem kr:∀(l:List Oper) (k j:Nat),k<=j->bB C (l.take k)<=bB C (l.take j)
 | [],k,j,_=>by simp
 | o::l,0,j,_=>by simp[bB]
 | o::l,k+1,j+1,h=>by
  have:=kr l k j (by omega);simp only[List.take_succ_cons,bB];omega
end
section
variable {P:Program} {C:dP} {K:Ctx} {ops:List Oper} {bd:List bZ} {st MF:St} {n0:Nat} {Q:bC->St->Prop}
structure GB (C:dP) (K:Ctx) (ops:List Oper) (bd:List bZ) (MF:St) (s0:Nat) (E:Nat->Bool) (a:Act) (w:World):Prop where
 dj:oZ ops E
 sat:∃β S,Sat K β S (di MF ops bd E ops.length) a w/\∀k,k<ops.length->E k=false->∀s,s0+bB C (ops.take k)<=s->s<s0+bB C (ops.take k)+slotsOf C (ops.getD k default).op->s<MF.heap.length/\β s=none
def lK (bU:Array Bool):Nat->Bool:=fun k=>bU.getD k false
theorem qI {bU:Array Bool} {j:Nat} (hj:j<bU.size):lK (bU.setIfInBounds j true)=qF (lK bU) j:=by
 funext k;show(bU.setIfInBounds j true).getD k false=(k==j||bU.getD k false)
 rw[Array.getD_eq_getD_getElem?,Array.getD_eq_getD_getElem?,Array.getElem?_setIfInBounds]
 by_cases h:j=k
 ·subst h;simp[hj]
 ·rw[if_neg h]
  have:(k==j)=false:=by simp;omega
  rw[this,Bool.false_or]
theorem sf {bU:Array Bool} {j:Nat} (hl:bU.size=ops.length):j∈Region.ready .any ops.toArray bU↔j<ops.length/\lK bU j=false/\∀e∈(ops.getD j default).after.toList,Region.binds .any e=true->lK bU e.on=true:=by
 unfold Region.ready lK;rw[List.mem_filter,List.mem_range];simp only[List.size_toArray,Bool.and_eq_true,Bool.not_eq_true'];constructor
 ·rintro⟨h1,h2,h3⟩
  refine⟨h1,?_,fun e he hb=>?_⟩
  ·rw[Array.getD_eq_getD_getElem?,Array.getElem?_eq_getElem (by omega)]at h2 ⊢;exact h2
  ·have e1:ops.toArray[j]?=some (ops.getD j default):=by simp[List.getElem?_eq_getElem h1]
   rw[e1]at h3;simp only[Option.map_some,Option.getD_some]at h3;have:=(Array.all_eq_true'.1 h3) e (by simpa using he);simpa[hb]using this
 ·rintro⟨h1,h2,h3⟩
  refine⟨h1,?_,?_⟩
  ·rw[Array.getD_eq_getD_getElem?,Array.getElem?_eq_getElem (by omega)]at h2 ⊢;exact h2
  ·have e1:ops.toArray[j]?=some (ops.getD j default):=by simp[List.getElem?_eq_getElem h1]
   rw[e1];simp only[Option.map_some,Option.getD_some];refine Array.all_eq_true'.2 fun e he=>?_
   cases hb:Region.binds .any e with
   | false=>rfl
   | true=>simpa using h3 e (by simpa using he) hb
theorem AP {bU:Array Bool} (hl:bU.size=ops.length) (im:iX ops bd=true) (h:Region.ready .any ops.toArray bU=[]):∀k,k<ops.length->lK bU k=true:=by
 intro k
 induction k using Nat.strongRecOn with
 | _ k ih=>
  intro hk;cases hx:lK bU k with
  | true=>rfl
  | false=>
   have:k∈Region.ready .any ops.toArray bU:=(sf hl).2 ⟨hk,hx,fun e he hb=>ih e.on (tD im hk e he hb) (by have:=tD im hk e he hb;omega)⟩;rw[h]at this;cases this
theorem C0 {E:Nat->Bool} (h:∀k,k<ops.length->E k=true):∀m,m<=ops.length->di st ops bd E m=di st ops bd (fun _=>true) m
 | 0,_=>rfl
 | m+1,hm=>by
  rw[di,di,C0 h m (by omega),h m (by omega)]
theorem Ka (hC:bt P C) {s0:Nat} (im:iX ops bd=true) (dC:∀i,i<ops.length->eU P C ops (s0+bB C (ops.take i)) (ops.getD i default) (di MF ops bd (fun _=>true) i) (·=bd.getD i {}))
  (hQ:Q .normal (di MF ops bd (fun _=>true) ops.length)) :
  ∀(fuel:Nat) (bU:Array Bool) (a:Act) (w:World),bU.size=ops.length->left (lK bU) ops.length<=fuel->GB C K ops bd MF s0 (lK bU) a w->wpAny P .any ops.toArray (J3 K Q) fuel bU a w:=by
 have done:∀(bU:Array Bool) (a:Act) (w:World),(∀k,k<ops.length->lK bU k=true)->GB C K ops bd MF s0 (lK bU) a w->J3 K Q .normal a w:=by
  intro bU a w lF hinv;obtain⟨β,S,hs,_⟩:=hinv.sat;rw[C0 lF _ (Nat.le_refl _)]at hs;exact⟨.normal,_,rfl,hQ,β,S,hs⟩
 intro fuel
 induction fuel with
 | zero=>
  intro bU a w hl hf hinv;have lF:=yb ops.length (by omega:left (lK bU) ops.length=0);refine⟨?_,done bU a w lF hinv⟩;rw[List.eq_nil_iff_forall_not_mem];intro j hj;obtain⟨h1,h2,_⟩:=(sf hl).1 hj;rw[lF j h1]at h2;cases h2
 | succ fuel ih=>
  intro bU a w hl hf hinv;refine⟨fun hr=>done bU a w (AP hl im hr) hinv,fun j hj=>?_⟩;obtain⟨h1,h2,h3⟩:=(sf hl).1 hj;obtain⟨β,S,hs,jq⟩:=hinv.sat;have um:oZ ops (qF (lK bU) j):=by
   intro k hk HD e he hb;unfold qF at HD ⊢;rw[Bool.or_eq_true]at HD ⊢;rcases HD with HD|HD
   ·have:k=j:=by simpa using HD
    subst this;exact .inr (h3 e he hb)
   ·exact .inr (hinv.dj k hk HD e he hb)
  have GC:eU P C ops (s0+bB C (ops.take j)) (ops.getD j default) (di MF ops bd (lK bU) ops.length) (·=bd.getD j {}):=
   CV (HB im hinv.dj um h1 h2) (HC im hinv.dj um h1 h2) (dC j h1)
  have Xg:=J9 (st:=MF) im hinv.dj um h1 h2;unfold wpOp;have e1:ops.toArray[j]?=some (ops.getD j default):=by simp[List.getElem?_eq_getElem h1]
  rw[e1];refine vr hC hs (fun s q1 q2=>by
   obtain⟨r1,r2⟩:=jq j h1 h2 s q1 q2;exact⟨by rw[(fi _ _).2];exact r1,r2⟩) GC fun e w' v β' S' he rM W5=>?_
  subst he;rw[Xg]at rM;refine ih _ _ _ (by simpa using hl) ?_ ⟨?_,β',S',?_,fun k hk HD s q1 q2=>?_⟩
  ·rw[qI (by omega)]
   have:=(CZ h2 ops.length).2 h1;omega
  ·rw[qI (by omega)];exact um
  ·rw[qI (by omega)];exact rM
  ·rw[qI (by omega)]at HD
   have hkj:k≠j:=by rintro rfl;rw[qG]at HD;cases HD
   rw[jt hkj]at HD;obtain⟨r1,r2⟩:=jq k hk HD s q1 q2;refine⟨r1,?_⟩;rw[W5 s]
   ·exact r2
   ·rcases Nat.lt_trichotomy k j with h4|h4|h4
    ·left
     have:=kr (C:=C) ops (k+1) j (by omega);rw[ko ops k hk]at this;omega
    ·exact absurd h4 hkj
    ·right
     have:=kr (C:=C) ops (j+1) k (by omega);rw[ko ops j h1]at this;omega
theorem Kb (l:List Oper) (k:Nat) (hk:k<l.length):bB C (l.take k)+slotsOf C (l.getD k default).op<=bB C l:=by
 rw[<-ko l k hk];have:=kr (C:=C) l (k+1) l.length (by omega);rwa[List.take_length]at this
theorem dy.draw (hC:bt P C) (ek:P.follows .mixedOrders=true) {id:Nat} {ops:Array Oper}
  (hk:vw P C ops.toList ops.toList st.heap.length (st.ext (bB C ops.toList)) [] fun bd rY=>iX ops.toList bd=true/\Q .normal rY):dy P n0 (.region id ops true) st Q:=by
 obtain⟨es,h1,h2,h3,h4⟩:=CW _ _ _ _ _ hk;rw[List.nil_append]at h3;intro K hn β S a w h;refine wp_region_any ek ?_;have:=Ka (K:=K) (Q:=Q) hC h3 h2 h4 ops.size (Array.replicate ops.size false) a { w with drawn:=w.drawn+1 } (by simp) ?_ ⟨?_,β,S,?_,?_⟩
 ·simpa using this
 ·have:∀(E:Nat->Bool) m,left E m<=m:=by
   intro E m
   induction m with
   | zero=>exact Nat.le_refl _
   | succ m ih=>rw[left];split<;>omega
  simpa using this _ ops.toList.length
 ·intro k hk hE
  unfold lK at hE;rw[Array.getD_eq_getD_getElem?,Array.getElem?_replicate]at hE;split at hE<;>simp at hE
 ·have e1:∀m,di (st.ext (bB C ops.toList)) ops.toList es (lK (Array.replicate ops.size false)) m=st.ext (bB C ops.toList):=by
   intro m
   induction m with
   | zero=>rfl
   | succ m ih=>
    have:lK (Array.replicate ops.size false) m=false:=by
     unfold lK;rw[Array.getD_eq_getD_getElem?,Array.getElem?_replicate];split<;>rfl
    rw[di,this,ih];rfl
  rw[e1];exact(h.ext _).drawn _
 ·intro k hk _ s q1 q2
  refine⟨?_,?_⟩
  ·have:=Kb (C:=C) ops.toList k hk
   simp[St.ext];omega
  ·cases hx:β s with
   | none=>rfl
   | some R=>have:=h.top s R hx;omega
end
structure St.Ck (n0:Nat) (ρ:Nat->Nat) (s s':St):Prop where
 len:s'.tmps.length=s.tmps.length
 tmps:∀(i:Nat) (x:AV),s'.tmps[i]?=some x->x=.aj∨x.bA/\s.tmps[i]?=some (x.aX ρ)
 heap:∀b aR,look s'.heap b=some aR->look s.heap (ρ b)=some (aR.aX ρ)
 inj:∀b b' aR cR,look s'.heap b=some aR->look s'.heap b'=some cR->ρ b=ρ b'->b=b'
 fix:∀b,b<n0->ρ b=b
section
variable {β:Nat->Option bS} {S:Place} {w:World} {n:Nat} {ρ:Nat->Nat}
theorem dd.aX {c:Cell} {v:Value} (h:dd β S w (c.aX ρ) v) (hb:c.a9 n=true):dd (fun b=>if b<n then β (ρ b) else none) S w c v:=by
 cases c with
 | t x=>cases h with|t h=>exact .t h
 | ptr b r c=>cases h with|ptr R h=>exact .ptr R (by simp only[Cell.a9,decide_eq_true_eq]at hb;rw[if_pos hb];exact h)
 | tp row c=>cases h with|tp cb co val h=>exact .tp cb co val h
 | sl b off len cp=>cases h with|sl R base cap h h1 h2 h3 h4 h5=>exact .sl R base cap (by simp only[Cell.a9,decide_eq_true_eq]at hb;rw[if_pos hb];exact h) h1 h2 h3 h4 h5
 | mp b=>cases h with|mp R h=>exact .mp R (by simp only[Cell.a9,decide_eq_true_eq]at hb;rw[if_pos hb];exact h)
 | dj f a8=>
  cases h with
  | dj vs h1 h2=>
   refine .dj vs (by rw[h1,List.length_map]) fun i b r c hi=>?_
   obtain⟨R,e1,e2⟩:=h2 i (ρ b) r c (by rw[List.getElem?_map,hi];rfl);have:=List.all_eq_true.1 hb _ (List.mem_of_getElem? hi);exact⟨R,by rw[if_pos (by simpa using this)];exact e1,e2⟩
theorem aY.aX {x:AV} {v:Value} (h:aY β S w (x.aX ρ) v) (ht:x.bA) (hb:x.a9 n=true):aY (fun b=>if b<n then β (ρ b) else none) S w x v:=by
 cases x with
 | c x=>cases h with|c h=>exact .c (h.aX (by simpa[AV.a9]using hb))
 | agg l=>
  cases h with
  | agg vs h1 h2=>
   refine .agg vs (by rw[h1,List.length_map]) fun i c hi=>?_
   obtain⟨v,e1,e2⟩:=h2 i (c.aX ρ) (by rw[List.getElem?_map,hi];rfl);simp only[AV.a9]at hb;exact⟨v,e1,e2.aX (List.all_eq_true.1 hb c (List.mem_of_getElem? hi))⟩
 | oD l=>exact ht.elim
 | aj=>exact .aj v
theorem aU.AQ {aR:aU} {R:bS}:(aR.aX ρ).ext R=aR.ext R:=by
 cases aR<;>(funext b o;simp[aU.aX,aU.ext])
theorem aU.Pv {aR:aU} {R:bS}:(aR.aX ρ).wr R=aR.wr R:=by
 cases aR<;>(funext b o;simp[aU.aX,aU.wr])
theorem Sat.aX {K:Ctx} {n0:Nat} {s s':St} {a:Act} (h:Sat K β S s a w) (hl:s.Ck n0 ρ s') (hb:s'.a9=true) (hn:∀i R,K.β0 i=some R->i<n0) (hk:n0<=s'.heap.length) :
  Sat K (fun b=>if b<s'.heap.length then β (ρ b) else none) S s' a w:=by
 simp only[St.a9,Bool.and_eq_true]at hb;refine⟨by rw[hl.len];exact h.len,h.defers,fun t x ht=>?_,fun b R hR=>?_,fun b aR gz=>?_,fun b b' aR cR R R' cY h1 h2 hR gD=>?_,h.rH,h.sin,h.sub,h.jh,fun i R hi=>by
  rw[if_pos (Nat.lt_of_lt_of_le (hn i R hi) hk),hl.fix i (hn i R hi)];exact h.arg i R hi⟩
 ·rcases hl.tmps t x ht with rfl|⟨h1,hx⟩
  ·exact .aj _
  ·exact(h.tmps t _ hx).aX h1 (List.all_eq_true.1 hb.1 x (List.mem_of_getElem? ht))
 ·split at hR
  ·assumption
  ·cases hR
 ·obtain⟨R,e1,e2,e3,e4⟩:=h.aR _ _ (hl.heap b aR gz)
  have bH:=rQ gz;rw[aU.AQ]at e3;rw[aU.Pv]at e4;refine⟨R,by rw[if_pos bH];exact e1,?_,e3,e4⟩;cases aR with
  | var cells=>
   simp only[aU.aX,dR,List.length_map]at e2;refine⟨e2.1,fun j c hj=>?_⟩;obtain⟨v,f1,f2⟩:=e2.2 j (c.aX ρ) (by rw[List.getElem?_map,hj];rfl);have hm:some (aU.var cells)∈s'.heap:=by
    unfold look at gz;cases hx:s'.heap[b]? with
    | none=>rw[hx]at gz;cases gz
    | some y=>rw[hx]at gz;simp at gz;subst gz;exact List.mem_of_getElem? hx
   have:=List.all_eq_true.1 hb.2 _ hm;simp only[aU.a9]at this;exact⟨v,f1,f2.aX (List.all_eq_true.1 this c (List.mem_of_getElem? hj))⟩
  | rows sz rows g fz=>exact e2
  | map cF=>exact e2
  | fR sz rows=>exact e2
 ·have l1:=rQ h1
  have l2:=rQ h2;rw[if_pos l1]at hR;rw[if_pos l2]at gD;have:=h.kX (ρ b) (ρ b') _ _ R R' (fun e=>cY (hl.inj b b' _ _ h1 h2 e)) (hl.heap _ _ h1) (hl.heap _ _ h2) hR gD;rw[aU.AQ,aU.AQ]at this;exact this
end
theorem dy.MG {P:Program} {n0:Nat} {c:Code} {st:St} {Q:bC->St->Prop} (h:dy P n0 c st fun e s=>Q e s∨∃ρ s',s.Ck n0 ρ s'/\s'.a9=true/\n0<=s'.heap.length/\Q e s'):dy P n0 c st Q:=fun K hn β S a w hs=>
 wp_mono (h K hn β S a w hs) fun e a' w' ⟨x,s,h1,h2,β',S',h5⟩=>by
  rcases h2 with h2|⟨ρ,s',h2,h3,hk,h4⟩
  ·exact⟨x,s,h1,h2,β',S',h5⟩
  ·exact⟨x,s',h1,h4,_,S',h5.aX h2 h3 hn hk⟩
def bV (ρ:Nat->Nat):List AV->List AV->Prop
 | [],[]=>True
 | x::xs,y::ys=>(y=.aj∨y.bA/\x=y.aX ρ)/\bV ρ xs ys
 | _,_=>False
def aT:List (Nat×Nat)->Nat->Nat
 | [],b=>b
 | (x,y)::l,b=>if b=x then y else aT l b
def bW (ρ:Nat->Nat) (h:bM):Nat->bM->Prop
 | _,[]=>True
 | i,y::ys=>(match y with|none=>True|some b=>look h (ρ i)=some (b.aX ρ))/\bW ρ h (i+1) ys
def bf (ρ:Nat->Nat):Nat->bM->List Nat
 | _,[]=>[]
 | i,none::ys=>bf ρ (i+1) ys
 | i,some _::ys=>ρ i::bf ρ (i+1) ys
theorem yc {ρ:Nat->Nat}:∀ {xs ys:List AV},bV ρ xs ys->ys.length=xs.length/\∀(i:Nat) (y:AV),ys[i]?=some y->y=.aj∨y.bA/\xs[i]?=some (y.aX ρ)
 | [],[],_=>⟨rfl,by simp⟩
 | x::xs,y::ys,h=>by
  obtain⟨h1,h2⟩:=h;obtain⟨h3,h4⟩:=yc h2;refine⟨by simp[h3],fun i z hz=>?_⟩;cases i with
  | zero=>
   simp at hz;subst hz;rcases h1 with h|⟨h,h'⟩
   ·exact .inl h
   ·exact .inr ⟨h,by simp[h']⟩
  | succ i=>simpa using h4 i z (by simpa using hz)
theorem yd {ρ:Nat->Nat} {h:bM}:∀ {ys:bM} {i:Nat},bW ρ h i ys->∀(j:Nat) (b:aU),look ys j=some b->look h (ρ (i+j))=some (b.aX ρ)
 | [],i,_,j,b,hb=>by simp[look]at hb
 | y::ys,i,⟨h1,h2⟩,j,b,hb=>by
  cases j with
  | zero=>simp[look]at hb;subst hb;exact h1
  | succ j=>
   have:=yd h2 j b (by simpa[look]using hb);rw[show i+(j+1)=i+1+j by omega];exact this
theorem si {ρ:Nat->Nat}:∀ {ys:bM} {i:Nat} (j:Nat) (b:aU),look ys j=some b->ρ (i+j)∈bf ρ i ys
 | [],i,j,b,hb=>by simp[look]at hb
 | y::ys,i,j,b,hb=>by
  cases j with
  | zero=>simp[look]at hb;subst hb;exact .head _
  | succ j=>
   have:=si (ρ:=ρ) (i:=i+1) j b (by simpa[look]using hb);rw[show i+(j+1)=i+1+j by omega];cases y with
   | none=>exact this
   | some y=>exact .tail _ this
theorem ye {ρ:Nat->Nat}:∀ {ys:bM} {i:Nat},(bf ρ i ys).Nodup->∀(j j':Nat) (b b':aU),look ys j=some b->look ys j'=some b'->ρ (i+j)=ρ (i+j')->j=j'
 | [],i,_,j,j',b,b',hb,_,_=>by simp[look]at hb
 | y::ys,i,hn,j,j',b,b',hb,bK,he=>by
  have ht:(bf ρ (i+1) ys).Nodup:=by
   cases y with
   | none=>exact hn
   | some y=>exact(List.nodup_cons.1 hn).2
  cases j with
  | zero=>
   cases j' with
   | zero=>rfl
   | succ j'=>
    simp[look]at hb;subst hb;have:=si (ρ:=ρ) (i:=i+1) j' b' (by simpa[look]using bK);rw[show i+1+j'=i+(j'+1) by omega,<-he]at this;exact absurd this (List.nodup_cons.1 hn).1
  | succ j=>
   cases j' with
   | zero=>
    simp[look]at bK;subst bK;have:=si (ρ:=ρ) (i:=i+1) j b (by simpa[look]using hb);rw[show i+1+j=i+(j+1) by omega,he]at this;exact absurd this (List.nodup_cons.1 hn).1
   | succ j'=>
    have:=ye ht j j' b b' (by simpa[look]using hb) (by simpa[look]using bK) (by rw[show i+1+j=i+(j+1) by omega,show i+1+j'=i+(j'+1) by omega];exact he);omega
theorem Fc {n0:Nat} {s s':St} (m:List (Nat×Nat)) (h1:bV (aT m) s.tmps s'.tmps) (h2:bW (aT m) s.heap 0 s'.heap) (h3:(bf (aT m) 0 s'.heap).Nodup) (h4:∀p∈m,n0<=p.1):s.Ck n0 (aT m) s':=by
 obtain⟨a,b⟩:=yc h1;refine⟨a,b,fun b aR hb=>?_,fun b b' aR cR hb bK he=>?_,fun b hb=>?_⟩
 ·have:=yd h2 b aR hb;rwa[Nat.zero_add]at this
 ·exact ye h3 b b' aR cR hb bK (by rw[Nat.zero_add,Nat.zero_add];exact he)
 ·have:∀l:List (Nat×Nat),(∀p∈l,n0<=p.1)->aT l b=b:=by
   intro l
   induction l with
   | nil=>intro _;rfl
   | cons p l ih=>
    intro h;obtain⟨x,y⟩:=p;have:=h (x,y) (.head _);simp only[aT];rw[if_neg (by simp at this;omega)];exact ih fun p hp=>h p (.tail _ hp)
  exact this m h4
theorem ep.qA {P:Program} {C:dP} {f:FuncId} (hC:bt P C) {fn:Func} {c:Code} {s s':St} (iN:P.funcs[f]?=some fn) (ez:(fn.name == "runtime.NumGoroutine")=false) (dn:fn.body=some c)
  (cL:dy P s.heap.length c ⟨s.tmps++List.replicate (fn.ntmps-s.tmps.length) .aj,s.heap⟩ fun e s2=>(e=.normal∨e=.ret)/\∃bJ ρ,fn.results.toList.mapM (fF C s2)=some bJ/\(St.mk bJ s2.heap).Ck s.heap.length ρ s'/\s'.a9=true/\s.heap.length<=s'.heap.length):ep P f s s':=by
 refine⟨⟨fn,iN,by rw[dn];rfl,ez⟩,fun K β S a w hK hs=>?_⟩;refine calls_of_wp iN dn ?_;refine wp_mono (cL K hK β S _ w ?_) fun e a' w' ⟨x,s2,hx,⟨Ps,bJ,ρ,dW,hle,Pw,hlen⟩,β',S1,yf⟩=>?_
 ·refine⟨by simp[hs.len],rfl,fun t x ht=>?_,hs.top,hs.aR,hs.kX,hs.rH,hs.sin,hs.sub,hs.jh,hs.arg⟩
  simp only at ht;rw[List.getElem?_append]at ht;split at ht
  ·rename_i bH
   have:=hs.tmps t x ht;rw[Array.getD_eq_getD_getElem?]at this ⊢;rw[Array.getElem?_append,if_pos (by rw[hs.len];exact bH)];exact this
  ·rw[List.getElem?_replicate]at ht
   split at ht
   ·cases ht;exact .aj _
   ·cases ht
 ·obtain⟨vs,r1,r2,r3⟩:=jr (P:=P) hC yf dW
  have Xh:Sat K β' S1 ⟨bJ,s2.heap⟩ { a with tmps:=vs.toArray } w':=by
   refine⟨by simp[r2],hs.defers,fun t x ht=>?_,yf.top,yf.aR,yf.kX,yf.rH,yf.sin,yf.sub,yf.jh,yf.arg⟩;obtain⟨v,e1,e2⟩:=r3 t x ht;have:({ a with tmps:=vs.toArray }:Act).tmps.getD t undef=v:=by simp[e1]
   rw[this];exact e2
  have Xi:=Xh.aX hle Pw hK hlen;have eQ:∃v,(results fn a'.tmps).run P w'=.ok v w'/\∃(us:List Value) (β':Nat->Option bS) (S':Place),Ending.returned v=.returned (if us.length=1 then us.getD 0 undef else .tuple us.toArray)/\us.length=s'.tmps.length/\Sat K β' S' s' { a with tmps:=us.toArray } w':=
   ⟨_,r1,vs,_,S1,rfl,by rw[r2,hle.len],Xi⟩
  cases e with
  | normal=>exact⟨yf.defers,eQ⟩
  | ret=>exact⟨yf.defers,eQ⟩
  | exit id=>cases hx;rcases Ps with h|h<;>cases h
  | goto=>cases hx
  | panic=>cases hx
  | outgrown=>cases hx
def MH (heap:bM):AV->Option (AV×bM)
 | .c (.sl b off len cp)=>match look heap b with
  | some (.var cells)=>match bL (look heap) cells with
   | some (ts,m)=>if off+len<=cells.length then some (.c (.t (.aa cp (((ts.drop off).take len).map fun t=>[t]))),dZ heap (m ++ [(b,none)])) else none
   | none=>none
  | _=>some (.c (.sl b off len cp),heap)
 | x=>some (x,heap)
def Kc:bM->List AV->Option (List AV×bM)
 | h,[]=>some ([],h)
 | h,x::xs=>match MH h x with
  | some (y,h1)=>match Kc h1 xs with
   | some (ys,h2)=>some (y::ys,h2)
   | none=>none
  | none=>none
def uo (C:dP) (st:St) (args:List Arg) (I8:List ResultVar) (om:List Mode):Option lJ:=
 match I8.mapM (fF C st) with
 | none=>none
 | some bJ=>match Kc st.heap bJ with
  | some (pb,ee)=>qz ee pb args om
  | none=>none
section
variable {P:Program} {C:dP} {K:Ctx} {β:Nat->Option bS} {S:Place} {a:Act} {w:World} {f:FuncId} {tm:List AV}
theorem C2 {heap ee:bM} (h:Sat K β S ⟨tm,heap⟩ a w) {x x':AV} {v:Value} (hx:aY β S w x v) (hf:MH heap x=some (x',ee)) :
  ∃S',(∀c o,S c o->S' c o)/\Sat K β S' ⟨tm,ee⟩ a w/\aY β S' w x' v:=by
 unfold MH at hf;split at hf
 ·rename_i b off len cp
  split at hf
  ·rename_i cells hb
   split at hf
   ·rename_i ts m ht
    split at hf
    ·rename_i hle
     cases hf;obtain⟨S1,NQ,h1⟩:=h.JU hb ht;have JR:=rQ hb;have tX:look (dZ heap (m ++ [(b,some (.var (ts.map .t)))])) b=some (.var (ts.map .t)):=by
      rw[Er];exact xO (by rw[JC];exact JR) _
     obtain⟨S2,NR,h2,iv⟩:=Sat.xY (st:=⟨tm,dZ heap (m ++ [(b,some (.var (ts.map .t)))])⟩) h1 tX;have jj:(dZ heap (m ++ [(b,some (.var (ts.map .t)))])).set b none=dZ heap (m ++ [(b,none)]):=by
      rw[Er,Er];show((dZ heap m).set b _).set b none=(dZ heap m).set b none
      rw[List.set_set]
     rw[jj]at h2;refine⟨S2,fun c o hs=>NR _ _ (NQ _ _ hs),h2,?_⟩;cases hx with|c hx=>
     cases hx with|sl R base cap hR g1 g2 g3 g4 g5=>
     obtain⟨R',gD,⟨⟨uh,dC,EU⟩,Es⟩,_,_⟩:=h1.aR b _ tX;rw[hR]at gD;cases gD;have hlen:ts.length=cells.length:=by
      obtain⟨uU,lH,⟨_,Xj⟩,_,_⟩:=h.aR b _ hb;obtain⟨vs,IZ⟩:∃vs:List Value,vs=(List.range cells.length).map fun j=>(w.cell? ⟨uU.cb,uU.co+j,none⟩).getD undef:=⟨_,rfl⟩
      obtain⟨_,_,_,_,hl,_⟩:=fD (st:=⟨tm,heap⟩) cells vs heap S ts m h (dT.refl _) (by rw[IZ];simp) (fun i c hi=>by
       obtain⟨v,e1,e2⟩:=Xj i c hi;have bH:=(List.getElem?_eq_some_iff.1 hi).1;exact⟨v,by rw[IZ,List.getElem?_map,List.getElem?_range bH,Option.map_some,e1];rfl,e2⟩) ht
      exact hl
     have xi:(((ts.drop off).take len).map fun t=>[t]).length=len:=by rw[List.length_map,List.length_take,List.length_drop];omega
     have key:=dF.aa (S:=S2) (w:=w) cp (((ts.drop off).take len).map fun t=>[t]) base R.cb (R.co+off) 1 cap (fun i _=>(w.cell? ⟨R.cb,R.co+off+i,none⟩).getD undef)
      (by omega) (by omega) (by omega) (fun hc=>by rw[xi];exact g1 hc) (fun cY=>?_) (fun hn=>?_) (fun r hr=>?_) (fun i j t CN=>?_) (fun i j t CN=>?_)
     ·rw[xi]at key
      exact .c (.t key)
     ·have:0<len:=by
       rcases Nat.eq_zero_or_pos len with h0|h0
       ·exact absurd (List.length_eq_zero_iff.1 (by rw[xi,h0])) cY
       ·exact h0
      rw[g5 (by omega),dC,Nat.mul_one]
     ·rcases Nat.eq_zero_or_pos cap with h0|h0
      ·exact h0
      ·rw[g5 h0]at hn;cases hn
     ·obtain⟨t,_,rfl⟩:=List.mem_map.1 hr;rfl
     all_goals
      obtain⟨row,dv,hj⟩:=Option.bind_eq_some_iff.1 CN;rw[List.getElem?_map]at dv;obtain⟨t',lQ,rfl⟩:=Option.map_eq_some_iff.1 dv;have hj0:j=0:=by
       cases j with
       | zero=>rfl
       | succ j=>simp at hj
      subst hj0;simp at hj;subst hj;have WT:=(List.getElem?_eq_some_iff.1 lQ).1;rw[List.length_take,List.length_drop]at WT;rw[List.getElem?_take,if_pos (by omega),List.getElem?_drop]at lQ;obtain⟨v,e1,e2⟩:=Es (off+i) (.t t') (by rw[List.getElem?_map,lQ];rfl);rw[<-Nat.add_assoc]at e1
     ·refine⟨iv R hR _ (by omega) (by rw[List.length_map];omega),?_⟩
      rw[Nat.mul_one,Nat.add_zero,e1];rfl
     ·rw[e1]
      cases e2 with|t e2=>exact e2.mono NR fun _ _ _=>rfl
    ·cases hf
   ·cases hf
  ·cases hf;exact⟨S,fun _ _ hs=>hs,h,hx⟩
 ·cases hf;exact⟨S,fun _ _ hs=>hs,h,hx⟩
theorem C3:∀(bJ:List AV) (vs:List Value) (heap ee:bM) (S:Place) (pb:List AV),Sat K β S ⟨tm,heap⟩ a w->vs.length=bJ.length->(∀(i:Nat) (x:AV),bJ[i]?=some x->∃v,vs[i]?=some v/\aY β S w x v)->Kc heap bJ=some (pb,ee) ->
  ∃S',(∀c o,S c o->S' c o)/\Sat K β S' ⟨tm,ee⟩ a w/\vs.length=pb.length/\∀(i:Nat) (x:AV),pb[i]?=some x->∃v,vs[i]?=some v/\aY β S' w x v
 | [],vs,heap,ee,S,pb,h,hl,hr,hf=>by
  simp[Kc]at hf;obtain⟨rfl,rfl⟩:=hf;exact⟨S,fun _ _ hs=>hs,h,hl,by simp⟩
 | x::xs,[],_,_,_,_,_,hl,_,_=>by simp at hl
 | x::xs,v::vs,heap,ee,S,pb,h,hl,hr,hf=>by
  unfold Kc at hf;split at hf
  ·rename_i y h1 hy
   split at hf
   ·rename_i ys h2 Xk
    cases hf;obtain⟨v',rK,hx⟩:=hr 0 x rfl;simp at rK;subst rK;obtain⟨S1,e1,e2,e3⟩:=C2 h hx hy;obtain⟨S2,f1,f2,f3,f4⟩:=C3 xs vs h1 ee S1 ys e2 (by simpa using hl) (fun i z hz=>by
     obtain⟨u,q1,q2⟩:=hr (i+1) z (by simpa using hz);exact⟨u,by simpa using q1,q2.mono (fun _ _ hx=>hx) e1 fun _ _ _=>rfl⟩) Xk
    refine⟨S2,fun c o hs=>f1 _ _ (e1 _ _ hs),f2,by simp[f3],fun i z hz=>?_⟩;cases i with
    | zero=>simp at hz;subst hz;exact⟨v,rfl,e3.mono (fun _ _ hx=>hx) f1 fun _ _ _=>rfl⟩
    | succ i=>simpa using f4 i z (by simpa using hz)
   ·cases hf
  ·cases hf
theorem aA.vH (hC:bt P C) {fn:Func} {c:Code} {args:List Arg} {res:lJ} {om:List Mode} (iN:P.funcs[f]?=some fn) (ez:(fn.name == "runtime.NumGoroutine")=false) (dn:fn.body=some c)
  (cL:dy P args.length c (fm args fn.ntmps) fun e s=>(e=.normal∨e=.ret)/\uo C s args fn.results.toList om=some res):aA P f args res:=by
 refine⟨⟨fn,iN,by rw[dn];rfl,ez⟩,fun S w bn Rs hp=>?_⟩;refine calls_of_wp iN dn ?_;have jQ:=x8 hp fn.ntmps;have dG:(bn.take (jS args)).toArray.size=(bn.take (jS args)).length:=by simp
 rw[dG];refine wp_mono (cL _ (fun i R hi=>?_) _ S _ w jQ) fun e a' w' ⟨x,s,hx,⟨Ps,gB⟩,β',S1,hs⟩=>?_
 ·simp only[βA]at hi
  split at hi
  ·rename_i h1
   obtain⟨y,hy⟩:=Option.isSome_iff_exists.1 h1;obtain⟨z,h2,_⟩:=Option.bind_eq_some_iff.1 hy;exact ta h2
  ·cases hi
 unfold uo at gB;split at gB
 ·cases gB
 ·rename_i bJ E8
  split at gB
  ·rename_i pb ee Ep
   obtain⟨vs,r1,r2,r3⟩:=jr (P:=P) hC hs E8;obtain⟨S2,q1,q2,q3,q4⟩:=C3 (tm:=s.tmps) bJ vs s.heap ee S1 pb hs r2 r3 Ep;have CT:=Gy q2 q3 q4 gB;have eQ:∃v,(results fn a'.tmps).run P w'=.ok v w'/\∃u,Ending.returned v=.returned u/\fh args res S w Rs u w':=⟨_,r1,_,rfl,CT⟩;cases e with
   | normal=>exact⟨hs.defers,eQ⟩
   | ret=>exact⟨hs.defers,eQ⟩
   | exit id=>cases hx;rcases Ps with h|h<;>cases h
   | goto=>cases hx
   | panic=>cases hx
   | outgrown=>cases hx
  ·cases gB
end
inductive Ask where
 | a (args:List Arg)
 | h (s:St)
inductive pc where
 | a (r:lJ)
 | h (s:St)
def jV (P:Program) (f:FuncId):Ask->pc->Prop
 | .a args,.a r=>aA P f args r
 | .h s,.h s'=>ep P f s s'
 | _,_=>False
def Kd (C:dP) (call:FuncId->Ask->Option pc) (ops:List Oper) (slot:Nat) (o:Oper) (st:St):Option bZ:=
 match gO st.tmps ops o with
 | none=>none
 | some false=>some qx
 | some true=>
  match o.op with
  | .call { callee:=.value f,args,.. }=>
   match rX (st.get f) (args.toList.map st.get) with
   | none=>none
   | some (rN,bJ)=>
    match C.md rN with
    | .sh _::_=>
     match oT (look st.heap) bJ with
     | none=>none
     | some (ids,s)=>
      match call rN (.h s) with
      | some (.h s')=>vk ids slot (slotsOf C o.op) s'
      | _=>none
    | ms=>
     match eh (look st.heap) ms bJ with
     | none=>none
     | some (as,marks,dE)=>
      match call rN (.a as) with
      | some (.a res)=>fU (look st.heap) slot marks dE res
      | _=>none
  | op=>evalOp C slot st.get (look st.heap) op
def qJ (C:dP) (call:FuncId->Ask->Option pc) (ops:List Oper):List Oper->Nat->St->List bZ->Option (List bZ×St)
 | [],_,st,tr=>some (tr,st)
 | o::os,slot,st,tr=>
  match Kd C call ops slot o st with
  | some e=>qJ C call ops os (slot+slotsOf C o.op) (st.app o e) (tr ++ [e])
  | none=>none
def Ke (ops:List Oper) (x y:Oper):Bool:=
 (match x.dst with|some d=>(lf ops y).contains d||y.dst==some d|none=>false) ||
 (match y.dst with|some d=>(lf ops x).contains d|none=>false)
def C4 (ex ey:bZ):Bool:=(ids ex.wr).any (fun b=>(ids ey.wr).contains b||ey.rd.contains b)||ex.rd.any fun b=>(ids ey.wr).contains b
def C5 (ops:List Oper):Bool:=
 (List.range ops.length).all fun j=>(((ops.getD j default).after.toList.all fun e=>!Region.binds .any e||decide (e.on<j))) &&
  (List.range j).all fun i=>((vF [] ops).getD j 0).testBit i || !Ke ops (ops.getD i default) (ops.getD j default)
def yg (ops:List Oper) (bd:List bZ):Bool:=
 (bd.all fun e=>e.wr.isEmpty)||(List.range ops.length).all fun j=>(List.range j).all fun i=>!C4 (bd.getD i {}) (bd.getD j {})||((vF [] ops).getD j 0).testBit i
theorem yh {ops:List Oper} {bd:List bZ} (h1:C5 ops=true) (h2:yg ops bd=true):iX ops bd=true:=by
 have hH:∀j,j<ops.length->∀i,i<j->((vF [] ops).getD j 0).testBit i=true∨C4 (bd.getD i {}) (bd.getD j {})=false:=by
  intro j hj i hi;unfold yg at h2;rw[Bool.or_eq_true]at h2;rcases h2 with h2|h2
  ·right
   have hw:∀k,(bd.getD k {}).wr=[]:=by
    intro k;rw[List.getD_eq_getElem?_getD];cases hk:bd[k]? with
    | none=>rfl
    | some e=>simpa using List.all_eq_true.1 h2 e (List.mem_of_getElem? hk)
   simp only[C4,hw,ids,List.map_nil,List.any_nil,Bool.false_or];rw[List.any_eq_false];simp
  ·have:=List.all_eq_true.1 (List.all_eq_true.1 h2 j (List.mem_range.2 hj)) i (List.mem_range.2 hi)
   rw[Bool.or_eq_true]at this;rcases this with h|h
   ·exact .inr (by simpa using h)
   ·exact .inl h
 unfold C5 at h1;unfold iX;refine List.all_eq_true.2 fun j hj=>?_
 have Xl:=List.all_eq_true.1 h1 j hj;rw[Bool.and_eq_true]at Xl ⊢;refine⟨Xl.1,List.all_eq_true.2 fun i hi=>?_⟩;have h1i:=List.all_eq_true.1 Xl.2 i hi;rw[Bool.or_eq_true]at h1i ⊢;rcases h1i with h|h
 ·exact .inl h
 ·rcases hH j (List.mem_range.1 hj) i (List.mem_range.1 hi) with h'|h'
  ·exact .inl h'
  ·right
   have e1:oX ops (ops.getD i default) (ops.getD j default) (bd.getD i {}) (bd.getD j {})=(Ke ops (ops.getD i default) (ops.getD j default)||C4 (bd.getD i {}) (bd.getD j {})):=by
    unfold oX Ke C4
    first
     | (simp only[Bool.or_assoc];done)
     | (simp only[Bool.or_assoc];rfl)
   rw[e1,h'];simpa using h
def dH (C:dP) (call:FuncId->Ask->Option pc):Nat->Code->St->Option (bC×St)
 | 0,_,_=>none
 | n+1,c,st=>
  match c with
  | .skip=>some (.normal,st)
  | .ret=>some (.ret,st)
  | .exit id=>some (.exit id,st)
  | .seq x y=>
   match dH C call n x st with
   | some (.normal,s)=>dH C call n y s
   | r=>r
  | .region _ ops draw=>
   match qJ C call ops.toList ops.toList st.heap.length (st.ext (bB C ops.toList)) []with
   | some (bd,s)=>if !draw||(C5 ops.toList&&yg ops.toList bd) then some (.normal,s) else none
   | none=>none
  | .cond c x y=>
   match(st.get c).bool? with
   | some true=>dH C call n x st
   | some false=>dH C call n y st
   | none=>none
  | .block id c=>
   match dH C call n c st with
   | some (.exit Cj,s)=>if Cj=id then some (.normal,s) else some (.exit Cj,s)
   | r=>r
  | .loop c=>
   match dH C call n c st with
   | some (.normal,s)=>dH C call n (.loop c) s
   | r=>r
  | _=>none
def C6 (n:Nat) (heap:bM) (bJ:List AV):List Nat:=
 reach (look heap) 400 (bJ.flatMap AV.refs++(List.range n).flatMap fun b=>match look heap b with|some (.var cells)=>cells.flatMap Cell.refs|_=>[]) (List.range n)
def GD (n:Nat) (ids:List Nat) (heap:bM) (bJ:List AV):Bool:=
 decide (ids.take n=List.range n)&&decide (n<=ids.length)&&decide ids.Nodup&&bJ.all (·.eT ids)&&ids.all fun b=>match look heap b with|some (.var cells)=>cells.all (·.eT ids)|_=>true
def AR (n:Nat) (heap:bM) (bJ:List AV):Option St:=
 let ids:=C6 n heap bJ
 if GD n ids heap bJ then some (ej (look heap) ids bJ) else none
def Px (s:St) (ntmps:Nat):St:=⟨s.tmps++List.replicate (ntmps-s.tmps.length) .aj,s.heap⟩
def uq (C:dP) (n:Nat) (s:St) (I8:List ResultVar):Option St:=
 match I8.mapM (fF C s) with
 | none=>none
 | some bJ=>AR n s.heap bJ
def AS (P:Program) (C:dP) (om:FuncId->List Mode) (call:FuncId->Ask->Option pc) (n:Nat) (f:FuncId) (x:Ask):Option pc:=
 match P.funcs[f]? with
 | some fn=>
  if fn.name == "runtime.NumGoroutine" then none else
  match fn.body with
  | some c=>
   match x with
   | .a args=>match dH C call n c (fm args fn.ntmps) with
    | some (.normal,s)=>(uo C s args fn.results.toList (om f)).map .a
    | some (.ret,s)=>(uo C s args fn.results.toList (om f)).map .a
    | _=>none
   | .h s0=>match dH C call n c (Px s0 fn.ntmps) with
    | some (.normal,s)=>(uq C s0.heap.length s fn.results.toList).map .h
    | some (.ret,s)=>(uq C s0.heap.length s fn.results.toList).map .h
    | _=>none
  | none=>none
 | none=>none
def qK (P:Program) (C:dP) (om:FuncId->List Mode):Nat->FuncId->Ask->Option pc
 | 0,_,_=>none
 | n+1,f,x=>AS P C om (qK P C om n) n f x
section
variable {P:Program} {C:dP} {call:FuncId->Ask->Option pc} {ops:List Oper} {slot:Nat} {o:Oper} {st:St} {e:bZ} {n0:Nat} {Q:bC->St->Prop}
theorem C7 (ch:∀f x y,call f x=some y->jV P f x y) (h:Kd C call ops slot o st=some e) {k:bZ->Prop} (hk:k e):eU P C ops slot o st k:=by
 unfold Kd at h;unfold eU;split at h
 ·cases h
 ·rename_i hw;cases h;simp only[hw];exact hk
 ·rename_i hw
  simp only[hw];split at h
  ·rename_i f args argTypes dX
   split at h
   ·cases h
   ·rename_i rN bJ hc
    split at h
    ·rename_i n0 Vo LV
     split at h
     ·cases h
     ·rename_i ids s hp
      split at h
      ·rename_i s' hr
       rw[dX]at h;simp only[dX,hc,LV,hp];exact⟨s',ch _ _ _ hr,by simp only[h];exact hk⟩
      ·cases h
    ·rename_i J2
     split at h
     ·cases h
     ·rename_i as marks dE hp
      split at h
      ·rename_i res hr
       simp only[dX,hc,hp];exact⟨res,ch _ _ _ hr,by simp only[h];exact hk⟩
      ·cases h
  ·rename_i hn
   split
   ·rename_i dX
    exact absurd dX (hn _ _ _)
   ·simp only[h];exact hk
theorem jG (ch:∀f x y,call f x=some y->jV P f x y):∀(os:List Oper) (slot:Nat) (st:St) (tr:List bZ) {bd:List bZ} {s:St} {k:List bZ->St->Prop},
  qJ C call ops os slot st tr=some (bd,s)->k bd s->vw P C ops os slot st tr k
 | [],slot,st,tr,bd,s,k,h,hk=>by simp only[qJ,Option.some.injEq,Prod.mk.injEq]at h;obtain⟨rfl,rfl⟩:=h;exact hk
 | o::os,slot,st,tr,bd,s,k,h,hk=>by
  unfold qJ at h;split at h
  ·rename_i e he
   exact C7 ch he (jG ch os _ _ _ h hk)
  ·cases h
theorem fY (hC:bt P C) (ek:P.follows .mixedOrders=true) (ch:∀f x y,call f x=some y->jV P f x y) :
  ∀(n:Nat) (c:Code) (st:St) {x:bC} {s:St} {Q:bC->St->Prop},dH C call n c st=some (x,s)->Q x s->dy P n0 c st Q:=by
 intro n
 induction n using Nat.strongRecOn with
 | _ n ih=>
  intro c st x s Q h hQ;cases n with
  | zero=>cases h
  | succ n=>
   cases c with
   | skip=>cases h;exact .skip hQ
   | ret=>cases h;exact .ret hQ
   | exit id=>cases h;exact .exit hQ
   | seq x y=>
    simp only[dH]at h;refine .seq ?_;split at h
    ·rename_i s1 h1
     exact ih n (Nat.lt_succ_self n) _ _ h1 (ih n (Nat.lt_succ_self n) _ _ h hQ)
    ·rename_i r hr
     refine ih n (Nat.lt_succ_self n) _ _ h ?_;unfold S5;split
     ·exact absurd h (hr _)
     ·exact hQ
   | region id ops draw=>
    simp only[dH]at h;split at h
    ·rename_i bd s1 h1
     split at h
     ·rename_i hd
      cases h;cases draw with
      | false=>exact .region hC (jG ch _ _ _ _ h1 hQ)
      | true=>
       simp only[Bool.not_true,Bool.false_or,Bool.and_eq_true]at hd;exact .draw hC ek (jG ch _ _ _ _ h1 ⟨yh hd.1 hd.2,hQ⟩)
     ·cases h
    ·cases h
   | cond c x y=>
    simp only[dH]at h;split at h
    ·rename_i hb
     exact .cond hb (ih n (Nat.lt_succ_self n) _ _ h hQ)
    ·rename_i hb
     exact .cond hb (ih n (Nat.lt_succ_self n) _ _ h hQ)
    ·cases h
   | block id c=>
    simp only[dH]at h;refine .block ?_;split at h
    ·rename_i Cj s1 h1
     refine ih n (Nat.lt_succ_self n) _ _ h1 ?_;unfold AG;split at h
     ·rename_i Ht;cases h;simp only[Ht,if_true];exact hQ
     ·rename_i Ht;cases h;simp only[Ht,if_false];exact hQ
    ·rename_i r hr
     refine ih n (Nat.lt_succ_self n) _ _ h ?_;unfold AG;split
     ·exact absurd h (hr _ _)
     ·exact hQ
   | loop c=>
    refine dy.loop (fun m s'=>m<=n+1/\dH C call m (.loop c) s'=some (x,s)) (fun m s' ⟨hm,hs⟩=>?_) (n:=n+1) ⟨Nat.le_refl _,h⟩;cases m with
    | zero=>cases hs
    | succ m=>
     simp only[dH]at hs;split at hs
     ·rename_i s1 h1
      exact ih m (by omega) _ _ h1 ⟨m,Nat.lt_succ_self m,by omega,hs⟩
     ·rename_i r hr
      refine ih m (by omega) _ _ hs ?_;unfold NY;split
      ·exact absurd hs (hr _)
      ·exact hQ
   | _=>cases h
theorem Cell.mr {ids:List Nat} {c:Cell} (h:c.eT ids=true):(c.aX fun b=>posOf b ids).aX (fun k=>ids.getD k 0)=c:=by
 have key:∀b,ids.contains b=true->ids.getD (posOf b ids) 0=b:=fun b hb=>(ml (List.contains_iff_mem.1 hb)).2
 cases c with
 | t x=>rfl
 | ptr b r c=>simp only[Cell.aX];rw[key _ h]
 | tp row c=>rfl
 | sl b off len cp=>simp only[Cell.aX];rw[key _ h]
 | mp b=>simp only[Cell.aX];rw[key _ h]
 | dj f a8=>
  simp only[Cell.aX,List.map_map,Cell.dj.injEq,true_and];refine(List.map_congr_left fun p hp=>?_).trans (List.map_id _);simp only[Function.comp];rw[key _ (List.all_eq_true.1 h p hp)];rfl
theorem AV.mr {ids:List Nat} {x:AV} (h:x.eT ids=true):(x.aX fun b=>posOf b ids).aX (fun k=>ids.getD k 0)=x/\(x.aX fun b=>posOf b ids).bA:=by
 cases x with
 | c x=>exact⟨by simp only[AV.aX];rw[Cell.mr h],trivial⟩
 | agg l=>
  refine⟨?_,trivial⟩;simp only[AV.aX,List.map_map,AV.agg.injEq];exact(List.map_congr_left fun c hc=>Cell.mr (List.all_eq_true.1 h c hc)).trans (List.map_id _)
 | oD l=>cases h
 | aj=>exact⟨rfl,trivial⟩
theorem Cell.sn {ids:List Nat} {c:Cell} (h:c.eT ids=true):(c.aX fun b=>posOf b ids).a9 ids.length=true:=by
 have key:∀b,ids.contains b=true->posOf b ids<ids.length:=fun b hb=>(ml (List.contains_iff_mem.1 hb)).1
 cases c with
 | t x=>rfl
 | ptr b r c=>exact decide_eq_true (key _ h)
 | tp row c=>rfl
 | sl b off len cp=>exact decide_eq_true (key _ h)
 | mp b=>exact decide_eq_true (key _ h)
 | dj f a8=>
  refine List.all_eq_true.2 fun p hp=>?_
  obtain⟨q,hq,rfl⟩:=List.mem_map.1 hp;exact decide_eq_true (key _ (List.all_eq_true.1 h q hq))
theorem AT {n:Nat} {heap:bM} {bJ:List AV} {s':St} (h:AR n heap bJ=some s') :
  ∃ρ,(St.mk bJ heap).Ck n ρ s'/\s'.a9=true/\n<=s'.heap.length:=by
 simp only[AR]at h;split at h
 ·rename_i hc
  cases h;generalize C6 n heap bJ=ids at hc;unfold GD at hc;simp only[Bool.and_eq_true,decide_eq_true_eq]at hc;obtain⟨⟨⟨⟨h1,h2⟩,h3⟩,h4⟩,h5⟩:=hc;have ha:∀x∈bJ,x.eT ids=true:=List.all_eq_true.1 h4;have hb:∀b∈ids,∀aR,look heap b=some aR->(aR.aX fun b=>posOf b ids).aX (fun k=>ids.getD k 0)=aR/\(aR.aX fun b=>posOf b ids).a9 ids.length=true:=by
   intro b JY aR hl;cases aR with
   | var cells=>
    have:=List.all_eq_true.1 h5 b JY;rw[hl]at this;refine⟨?_,?_⟩
    ·simp only[aU.aX,List.map_map,aU.var.injEq]
     exact(List.map_congr_left fun c hc=>Cell.mr (List.all_eq_true.1 this c hc)).trans (List.map_id _)
    ·refine List.all_eq_true.2 fun c hc=>?_
     obtain⟨c0,Tf,rfl⟩:=List.mem_map.1 hc;exact Cell.sn (List.all_eq_true.1 this c0 Tf)
   | rows=>exact⟨rfl,rfl⟩
   | map=>exact⟨rfl,rfl⟩
   | fR=>exact⟨rfl,rfl⟩
  refine⟨fun k=>ids.getD k 0,⟨by simp[ej],fun i x hi=>?_,fun b aR gz=>?_,fun b b' aR cR tX mc he=>?_,fun b Rl=>?_⟩,?_,by simpa[ej]using h2⟩
  ·simp only[ej,List.getElem?_map]at hi
   obtain⟨x0,e1,rfl⟩:=Option.map_eq_some_iff.1 hi;obtain⟨e2,e3⟩:=AV.mr (ha x0 (List.mem_of_getElem? e1));exact .inr ⟨e3,by rw[e2];exact e1⟩
  ·obtain⟨bH,b0,e1,rfl⟩:=gG gz
   rw[(hb _ (g7 bH) b0 e1).1];exact e1
  ·obtain⟨bH,_⟩:=gG tX
   obtain⟨rT,_⟩:=gG mc;exact getD_inj h3 bH rT he
  ·have:ids[b]?=some b:=by
    rw[<-List.getElem?_take_of_lt Rl,h1,List.getElem?_range Rl]
   rw[List.getD_eq_getElem?_getD,this];rfl
  ·simp only[St.a9,ej,Bool.and_eq_true,List.length_map]
   refine⟨List.all_eq_true.2 fun x hx=>?_,List.all_eq_true.2 fun o ho=>?_⟩
   ·obtain⟨x0,HE,rfl⟩:=List.mem_map.1 hx
    have:=ha x0 HE;cases x0 with
    | c c=>exact Cell.sn this
    | agg l=>
     refine List.all_eq_true.2 fun c hc=>?_
     obtain⟨c0,Tf,rfl⟩:=List.mem_map.1 hc;exact Cell.sn (List.all_eq_true.1 this c0 Tf)
    | oD l=>cases this
    | aj=>rfl
   ·obtain⟨b,JY,rfl⟩:=List.mem_map.1 ho
    cases hl:look heap b with
    | none=>rfl
    | some aR=>exact(hb b JY aR hl).2
 ·cases h
theorem xn {om:FuncId->List Mode} (hC:bt P C) (ek:P.follows .mixedOrders=true) (ch:∀f x y,call f x=some y->jV P f x y) {n:Nat} {f:FuncId} {x:Ask} {y:pc} (h:AS P C om call n f x=some y):jV P f x y:=by
 unfold AS at h;split at h
 ·rename_i fn iN
  split at h
  ·cases h
  ·rename_i ez
   split at h
   ·rename_i c dn
    cases x with
    | a args=>
     simp only at h;split at h
     ·rename_i s h1
      obtain⟨r,h2,rfl⟩:=Option.map_eq_some_iff.1 h;exact aA.vH hC iN (by simpa using ez) dn (om:=om f) (fY hC ek ch n c _ h1 ⟨.inl rfl,h2⟩)
     ·rename_i s h1
      obtain⟨r,h2,rfl⟩:=Option.map_eq_some_iff.1 h;exact aA.vH hC iN (by simpa using ez) dn (om:=om f) (fY hC ek ch n c _ h1 ⟨.inr rfl,h2⟩)
     ·cases h
    | h s0=>
     have key:∀(e:bC) (s s':St),(e=.normal∨e=.ret)->uq C s0.heap.length s fn.results.toList=some s'->(e=.normal∨e=.ret)/\∃bJ ρ,fn.results.toList.mapM (fF C s)=some bJ/\(St.mk bJ s.heap).Ck s0.heap.length ρ s'/\s'.a9=true/\s0.heap.length<=s'.heap.length:=by
      intro e s s' he h2;unfold uq at h2;split at h2
      ·cases h2
      ·rename_i bJ dW
       obtain⟨ρ,q1,q2,q3⟩:=AT h2;exact⟨he,bJ,ρ,dW,q1,q2,q3⟩
     simp only at h;split at h
     ·rename_i s h1
      obtain⟨r,h2,rfl⟩:=Option.map_eq_some_iff.1 h;exact ep.qA hC iN (by simpa using ez) dn (fY hC ek ch n c _ h1 (key _ _ _ (.inl rfl) h2))
     ·rename_i s h1
      obtain⟨r,h2,rfl⟩:=Option.map_eq_some_iff.1 h;exact ep.qA hC iN (by simpa using ez) dn (fY hC ek ch n c _ h1 (key _ _ _ (.inr rfl) h2))
     ·cases h
   ·cases h
 ·cases h
theorem fZ {om:FuncId->List Mode} (hC:bt P C) (ek:P.follows .mixedOrders=true):∀(n:Nat) (f:FuncId) (x:Ask) (y:pc),qK P C om n f x=some y->jV P f x y
 | 0,f,x,y,h=>by cases h
 | n+1,f,x,y,h=>xn hC ek (fZ hC ek n) h
end
def Py (P:Program) (l:List (FuncId×List Mode)) (f:FuncId):List Mode:=
 match l.find? (fun p=>p.1==f) with
 | some p=>p.2
 | none=>match P.funcs[f]? with
  | some fn=>List.replicate fn.results.size .val
  | none=>[]
def qL (P:Program) (n0:Nat) (c:Code) (st:St) (Q:bC->St->Prop):Prop:=dy P n0 (.loop c) st Q
def eV (P:Program) (C:dP) (n0:Nat):Code->St->(bC->St->Prop)->Prop
 | .skip,st,Q=>Q .normal st
 | .ret,st,Q=>Q .ret st
 | .exit id,st,Q=>Q (.exit id) st
 | .seq x y,st,Q=>eV P C n0 x st fun e s=>match e with
  | .normal=>eV P C n0 y s Q
  | .exit id=>Q (.exit id) s
  | .ret=>Q .ret s
 | .region _ ops draw,st,Q=>vw P C ops.toList ops.toList st.heap.length (st.ext (bB C ops.toList)) [] fun bd rY=>match draw with
  | false=>Q .normal rY
  | true=>match C5 ops.toList&&yg ops.toList bd with
   | true=>Q .normal rY
   | false=>False
 | .cond c x y,st,Q=>match(st.get c).bool? with
  | some true=>eV P C n0 x st Q
  | some false=>eV P C n0 y st Q
  | none=>False
 | .block id c,st,Q=>eV P C n0 c st fun e s=>match e with
  | .normal=>Q .normal s
  | .exit Cj=>if Cj=id then Q .normal s else Q (.exit Cj) s
  | .ret=>Q .ret s
 | .loop c,st,Q=>qL P n0 c st Q
 | _,_,_=>False
section
variable {P:Program} {C:dP} {ops:List Oper} {slot:Nat} {o:Oper} {st:St} {e:bZ} {n0:Nat}
theorem vI {k k':bZ->Prop} (h:eU P C ops slot o st k) (hk:∀e,k e->k' e):eU P C ops slot o st k':=by
 unfold eU at h ⊢;split at h
 ·exact h.elim
 ·exact hk _ h
 ·split at h
  ·split at h
   ·exact h.elim
   ·split at h
    ·split at h
     ·exact h.elim
     ·obtain⟨s',h1,h2⟩:=h
      refine⟨s',h1,?_⟩;split at h2
      ·exact hk _ h2
      ·exact h2.elim
    ·split at h
     ·exact h.elim
     ·obtain⟨res,h1,h2⟩:=h
      refine⟨res,h1,?_⟩;split at h2
      ·exact hk _ h2
      ·exact h2.elim
  ·split at h
   ·exact hk _ h
   ·exact h.elim
theorem nj:∀(os:List Oper) (slot:Nat) (st:St) (tr:List bZ) {k k':List bZ->St->Prop},vw P C ops os slot st tr k->(∀t s,k t s->k' t s)->vw P C ops os slot st tr k'
 | [],slot,st,tr,k,k',h,hk=>hk _ _ h
 | o::os,slot,st,tr,k,k',h,hk=>vI h fun e he=>nj os _ _ _ he hk
theorem eV.run (hC:bt P C) (ek:P.follows .mixedOrders=true):∀(c:Code) (st:St) (Q:bC->St->Prop),eV P C n0 c st Q->dy P n0 c st Q:=by
 intro c
 induction c with
 | skip=>intro st Q h;exact .skip h
 | ret=>intro st Q h;exact .ret h
 | exit id=>intro st Q h;exact .exit h
 | seq x y C8 C9=>
  intro st Q h;refine .seq ((C8 st _ h).mono fun e s hs=>?_);cases e with
  | normal=>exact C9 s _ hs
  | exit id=>exact hs
  | ret=>exact hs
 | region id ops draw=>
  intro st Q h;cases draw with
  | false=>exact .region hC h
  | true=>
   refine .draw hC ek (nj _ _ _ _ h fun t s hs=>?_);simp only at hs;split at hs
   ·rename_i hd
    rw[Bool.and_eq_true]at hd;exact⟨yh hd.1 hd.2,hs⟩
   ·exact hs.elim
 | cond c x y C8 C9=>
  intro st Q h;unfold eV at h;split at h
  ·rename_i hb;exact .cond hb (C8 st Q h)
  ·rename_i hb;exact .cond hb (C9 st Q h)
  ·exact h.elim
 | block id c ih=>
  intro st Q h;refine .block ((ih st _ h).mono fun e s hs=>?_);cases e<;>exact hs
 | loop c ih=>intro st Q h;exact h
 | _=>intros;rename_i h;exact False.elim h
theorem dy.Da {c:Code} {Q:bC->St->Prop} (h:dy P n0 c st fun e s=>Q e s∨∃s',s.Le s'/\s'.a9=true/\n0<=s'.heap.length/\Q e s'):dy P n0 c st Q:=fun K hn β S a w hs=>
 wp_mono (h K hn β S a w hs) fun e a' w' ⟨x,s,h1,h2,β',S',h5⟩=>by
  rcases h2 with h2|⟨s',h2,h3,hk,h4⟩
  ·exact⟨x,s,h1,h2,β',S',h5⟩
  ·exact⟨x,s',h1,h4,_,S',h5.weaken h2 h3 fun i R hi=>Nat.lt_of_lt_of_le (hn i R hi) hk⟩
theorem qL.intro (hC:bt P C) (ek:P.follows .mixedOrders=true) {c:Code} {Q:bC->St->Prop} (I:Nat->St->Prop) {n:Nat} {s0:St} (hl:st.Le s0) (hb:s0.a9=true) (hk:n0<=s0.heap.length) (h0:I n s0)
  (round:∀n s,I n s->eV P C n0 c s fun e s=>match e with
   | .normal=>∃s',s.Le s'/\s'.a9=true/\n0<=s'.heap.length/\∃m,m<n/\I m s'
   | .exit id=>Q (.exit id) s
   | .ret=>Q .ret s):qL P n0 c st Q:=by
 refine dy.weaken hl hb hk (dy.loop I (fun n s hI=>dy.Da ((eV.run hC ek c s _ (round n s hI)).mono fun e s1 h1=>?_)) h0);cases e with
 | normal=>
  obtain⟨s',h2,h3,h4,m,h5,h6⟩:=h1;exact .inr ⟨s',h2,h3,h4,m,h5,h6⟩
 | exit id=>exact .inl h1
 | ret=>exact .inl h1
def eC:List AV->List AV->Prop
 | [],[]=>True
 | x::xs,y::ys=>(y=.aj∨y=x)/\eC xs ys
 | _,_=>False
def eF:bM->bM->Prop
 | _,[]=>True
 | x::xs,y::ys=>(y=none∨y=x)/\eF xs ys
 | _,_=>False
theorem vJ:∀ {xs ys:List AV},eC xs ys->ys.length=xs.length/\∀(i:Nat) (y:AV),ys[i]?=some y->y=.aj∨xs[i]?=some y
 | [],[],_=>⟨rfl,by simp⟩
 | x::xs,y::ys,h=>by
  obtain⟨h1,h2⟩:=h;obtain⟨h3,h4⟩:=vJ h2;refine⟨by simp[h3],fun i z hz=>?_⟩;cases i with
  | zero=>simp at hz;subst hz;rcases h1 with h|h;exact .inl h;exact .inr (by simp[h])
  | succ i=>simpa using h4 i z (by simpa using hz)
theorem vK:∀ {xs ys:bM},eF xs ys->ys.length<=xs.length/\∀(i:Nat) (b:aU),look ys i=some b->look xs i=some b
 | xs,[],_=>⟨by simp,fun i b hb=>by simp[look]at hb⟩
 | x::xs,y::ys,h=>by
  obtain⟨h1,h2⟩:=h;obtain⟨h3,h4⟩:=vK h2;refine⟨by simp[h3],fun i b hb=>?_⟩;cases i with
  | zero=>simp[look]at hb ⊢;subst hb;rcases h1 with h|h;cases h;exact h.symm
  | succ i=>simpa[look]using h4 i b (by simpa[look]using hb)
theorem iY {s s':St} (h1:eC s.tmps s'.tmps) (h2:eF s.heap s'.heap):s.Le s':=
 ⟨(vJ h1).1,(vK h2).1,(vJ h1).2,(vK h2).2⟩
theorem aA.intro (hC:bt P C) (ek:P.follows .mixedOrders=true) {f:FuncId} {fn:Func} {c:Code} {args:List Arg} {res:lJ} (om:List Mode) (iN:P.funcs[f]?=some fn) (ez:(fn.name == "runtime.NumGoroutine")=false) (dn:fn.body=some c)
  (h:eV P C args.length c (fm args fn.ntmps) fun e s=>match e with
   | .exit _=>False
   | .normal=>finish C s args fn.results.toList om=some res
   | .ret=>finish C s args fn.results.toList om=some res):aA P f args res:=
 aA.qA hC iN ez dn ((eV.run hC ek c _ _ h).mono fun e s hs=>by
  cases e with
  | normal=>exact⟨.inl rfl,hs⟩
  | exit id=>exact hs.elim
  | ret=>exact⟨.inr rfl,hs⟩)
end
abbrev Rows:=List (List Tree)
structure ZI where
 wrap:IntKind->Int->Int
 add:Int->Int->Int
 sub:Int->Int->Int
 mul:Int->Int->Int
 quo:Int->Int->Int
 rem:Int->Int->Int
 shl:IntKind->Int->Int->Int
 shr:IntKind->Int->Int->Int
 bP:IntKind->Int->Int->Int
 eP:IntKind->Int->Int->Int
 Kf:IntKind->Int->Int->Int
 Db:IntKind->Int->Int->Int
 eq:Int->Int->Bool
 ne:Int->Int->Bool
 lt:Int->Int->Bool
 le:Int->Int->Bool
 not:Bool->Bool
 beq:Bool->Bool->Bool
 bne:Bool->Bool->Bool
 max:Int->Int->Int
 min:Int->Int->Int
 nat:Int->Nat
 xo:Int->Nat->Bool
 aW:Nat->Int
 idx:Nat->Int->Nat
 neq:Nat->Nat->Bool
 fc:Nat->Nat->Nat
 HF:Int->Int->Nat
 cut:Int->Int->Nat->Bool
 room:Nat->Nat->Nat->Bool
 my:Int->Int->Nat->Bool
 len:Rows->Nat
 nth:Rows->Nat->Option (List Tree)
 Dc:Rows->Nat->List Tree->Rows
 gJ:IntKind->Rows->Nat->Bool
 dL:Rows->Nat->Int
 nK:IntKind->Rows->Nat->Int->Rows
 fit:Nat->Nat->Rows->Bool
 part:Rows->Nat->Nat->Rows
 ext:Rows->Nat->Rows->Rows
 AU:Rows->Nat->Rows->Rows
 rep:Nat->List Tree->Rows
 wide:Nat->Rows->Bool
 all:List Bool->Bool
 MI:List (Value×Tree)->Value->Bool
 Dd:List (Value×Tree)->Value->Bool
 HG:List (Value×Tree)->Value->Tree->List (Value×Tree)
 str:Rows->Option ByteArray
 find:List (Value×Tree)->Value->Option (Option Tree)
def ZI.b9:ZI where
 wrap k n:=k.wrap n
 add a b:=a+b
 sub a b:=a-b
 mul a b:=a*b
 quo a b:=a.tdiv b
 rem a b:=a.tmod b
 shl k a b:=k.wrap (a*2^(Min.min b.toNat k.bits))
 shr k a b:=a.fdiv (2^(Min.min b.toNat k.bits))
 bP k a b:=k.wrap ((BitVec.ofInt k.bits a &&& BitVec.ofInt k.bits b).toNat)
 eP k a b:=k.wrap ((BitVec.ofInt k.bits a ||| BitVec.ofInt k.bits b).toNat)
 Kf k a b:=k.wrap ((BitVec.ofInt k.bits a ^^^ BitVec.ofInt k.bits b).toNat)
 Db k a b:=k.wrap ((BitVec.ofInt k.bits a &&& ~~~ BitVec.ofInt k.bits b).toNat)
 eq a b:=decide (a=b)
 ne a b:=decide (a≠b)
 lt a b:=decide (a<b)
 le a b:=decide (a<=b)
 not b:=!b
 beq a b:=(a==b)
 bne a b:=!(a==b)
 max a b:=if b>a then b else a
 min a b:=if b<a then b else a
 nat a:=a.toNat
 xo a n:=decide (0<=a/\a<n)
 aW n:=n
 idx off a:=off+a.toNat
 neq a b:=decide (a=b)
 fc a b:=a+b
 HF e l:=e.toNat-l.toNat
 cut l e n:=decide (0<=l/\l<=e/\e<=n)
 room a b bytes:=decide ((a+b)*bytes<=aF)
 my n m bytes:=decide (0<=n/\n<=m/\m*bytes<=aF)
 len l:=l.length
 nth l i:=l[i]?
 Dc l i r:=l.set i r
 gJ k l i:=match l[i]? with|some [.v (.int k' _)]=>k'==k|_=>false
 dL l i:=match l[i]? with|some [.v (.int _ x)]=>x|_=>0
 nK k l i x:=l.set i [.v (.int k x)]
 fit off n l:=decide (off+n<=l.length)
 part l off n:=(l.drop off).take n
 ext l off new:=l.drop off++new
 AU l off new:=bG l off new
 rep n r:=List.replicate n r
 wide n l:=l.all fun r=>r.length==n
 all l:=l.all id
 MI l k:=match cJ k l with
  | some none=>true
  | some (some (.v (.bool _)))=>true
  | _=>false
 Dd l k:=match cJ k l with
  | some (some (.v (.bool b)))=>b
  | _=>false
 HG l k t:=(fq k t l).getD l
 str l:=(dU l).map fun b=>⟨b.toArray⟩
 find l k:=cJ k l
structure Tg (c:Bool) (p:Prop):Prop where
 c:c=true
 p:p
structure Br (b:Bool) (p q:Prop):Prop where
 t:b=true->p
 f:b=false->q
def mz:List Bool->Prop->Prop
 | [],p=>p
 | c::cs,p=>Tg c (mz cs p)
def eY (cs:List Bool):Prop:=∀c∈cs,c=true
theorem LW:∀ {cs:List Bool} {p:Prop},mz cs p->eY cs/\p
 | [],p,h=>⟨by simp[eY],h⟩
 | c::cs,p,h=>by
  obtain⟨h1,h2⟩:=LW h.p;exact⟨by intro x hx;rcases List.mem_cons.1 hx with rfl|hx;exact h.c;exact h1 x hx,h2⟩
abbrev OZ (α:Type):=Option (List Bool×α)
def isConst:Operand->Bool
 | .const _=>true
 | _=>false
section
variable (Z:ZI)
def Kg (MJ:Bool) (op:BinOp) (k:IntKind) (a:Int) (k':IntKind) (b:Int):OZ Value:=
 match op with
 | .shl=>match MJ with
  | true=>if b<0 then none else some ([],.int k (Z.shl k a b))
  | false=>some ([Z.le 0 b],.int k (Z.shl k a b))
 | .shr=>match MJ with
  | true=>if b<0 then none else some ([],.int k (Z.shr k a b))
  | false=>some ([Z.le 0 b],.int k (Z.shr k a b))
 | _=>
  if k=k' then
   match op with
   | .add=>some ([],.int k (Z.wrap k (Z.add a b)))
   | .sub=>some ([],.int k (Z.wrap k (Z.sub a b)))
   | .mul=>some ([],.int k (Z.wrap k (Z.mul a b)))
   | .quo=>match MJ with
    | true=>if b=0 then none else some ([],.int k (Z.wrap k (Z.quo a b)))
    | false=>some ([Z.ne b 0],.int k (Z.wrap k (Z.quo a b)))
   | .rem=>match MJ with
    | true=>if b=0 then none else some ([],.int k (Z.rem a b))
    | false=>some ([Z.ne b 0],.int k (Z.rem a b))
   | .and=>some ([],.int k (Z.bP k a b))
   | .or=>some ([],.int k (Z.eP k a b))
   | .xor=>some ([],.int k (Z.Kf k a b))
   | .andNot=>some ([],.int k (Z.Db k a b))
   | .eql=>some ([],.bool (Z.eq a b))
   | .neq=>some ([],.bool (Z.ne a b))
   | .lss=>some ([],.bool (Z.lt a b))
   | .leq=>some ([],.bool (Z.le a b))
   | .gtr=>some ([],.bool (Z.lt b a))
   | .geq=>some ([],.bool (Z.le b a))
   | _=>none
  else none
def Pz (op:UnOp) (x:Value):Option Value:=
 match op,x with
 | .neg,.int k n=>some (.int k (Z.wrap k (Z.sub 0 n)))
 | .not,.bool b=>some (.bool (Z.not b))
 | _,_=>none
end
theorem HH {MJ : Bool} {op : BinOp} {k k' : IntKind} {a b : Int} {cs : List Bool} {v : Value} (h : Kg ZI.b9 MJ op k a k' b = some (cs, v)) (hc : eY cs) : Jr op (.int k a) (.int k' b) = some v := by
  unfold Kg at h;unfold Jr;have e1 : ∀x : Bool, eY [x] -> x = true := fun x hx=> hx x (by simp)
  cases op<;>simp only[ZI.b9]at h ⊢
  case shl=>
    cases MJ<;>simp only at h
    · cases h
      have := e1 _ hc;rw[if_neg (by simpa using this)]
    · split at h
      · cases h
      · rename_i hb;cases h;rw[if_neg hb]
  case shr=>
    cases MJ<;>simp only at h
    · cases h
      have := e1 _ hc;rw[if_neg (by simpa using this)]
    · split at h
      · cases h
      · rename_i hb;cases h;rw[if_neg hb]
  all_goals
    split at h
    · rename_i hk
      subst hk;rw[if_pos rfl]
      first
        | (cases h;done)
        | (cases h;rfl)
        | (cases h;by_cases Ei : a = b<;>simp[Ei];done)
        | (cases MJ<;>(try simp only at h)
           · cases h
             have := e1 _ hc;rw[if_neg (by simpa using this)]
           · split at h
             · cases h
             · rename_i hb;cases h;rw[if_neg hb])
    · cases h
section
variable (Z:ZI) (C:dP)
def uv (h:Hp):Cell->OZ (Tree×List (Nat×Option aU))
 | .t t=>some ([],t,[])
 | .sl b off len cp=>
  match h b with
  | some (.rows sz rows g _)=>some ([Z.fit off len rows],.aa cp (Z.part rows off len),[(b,some (.rows sz rows g true))])
  | _=>none
 | _=>none
def jW (h:Hp):List Cell->OZ (List Tree×List (Nat×Option aU))
 | []=>some ([],[],[])
 | c::cs=>
  match uv Z h c with
  | some (o,t,m)=>match jW h cs with
   | some (os,ts,ms)=>some (o++os,t::ts,m++ms)
   | none=>none
  | none=>none
def kt (h:Hp):AV->OZ (Rows×List Nat)
 | .c (.t (.aa _ rows))=>some ([],rows,[])
 | .c (.sl b off len _)=>
  match h b with
  | some (.rows _ rows _ _)=>some ([Z.fit off len rows],Z.part rows off len,[b])
  | some (.fR _ rows)=>some ([Z.fit off len rows],Z.part rows off len,[b])
  | _=>none
 | .c (.t (.v (.slice _ 0 _)))=>some ([],[],[])
 | _=>none
def so (ti:TI) (slot:Nat) (h:Hp) (s x:AV):OZ bZ:=
 match kt Z h x with
 | none=>match jD ti slot h s x with
  | some e=>some ([],e)
  | none=>none
 | some (o,new,nF)=>
  match s with
  | .c (.t (.aa true rows))=>
   some (o ++ [Z.not (Z.neq (Z.len new) 0),Z.wide ti.size new,Z.wide ti.size rows,Z.room (Z.len rows) (Z.len new) ti.bytes],
    { val:=.c (.sl slot 0 (Z.fc (Z.len rows) (Z.len new)) false),wr:=[(slot,some (.rows ti.size (Z.ext rows 0 new) true false))],rd:=nF })
  | .c (.sl b off len false)=>
   match h b with
   | some (.rows sz rows true fz)=>
    if sz=ti.size then
     some (o ++ [Z.not (Z.neq (Z.len new) 0),Z.wide ti.size new,Z.room len (Z.len new) ti.bytes,Z.neq (Z.fc off len) (Z.len rows)],
      { val:=.c (.sl slot 0 (Z.fc len (Z.len new)) false),wr:=[(b,Co sz rows fz),(slot,some (.rows sz (Z.ext rows off new) true fz))],rd:=b::nF })
    else none
   | _=>none
  | .c (.sl b off len true)=>
   match h b with
   | some (.rows sz rows g fz)=>
    if sz=ti.size then
     some (o ++ [Z.not (Z.neq (Z.len new) 0),Z.wide ti.size new,Z.room len (Z.len new) ti.bytes,Z.fit off len rows],
      { val:=.c (.sl slot 0 (Z.fc len (Z.len new)) false),wr:=[(slot,some (.rows ti.size (Z.ext (Z.part rows off len) 0 new) true false))],rd:=b::nF })
    else none
   | _=>none
  | _=>none
def Fe (ti:TI) (slot:Nat) (h:Hp) (s:AV) (o:List Bool) (new:Rows) (nF:List Nat):Option (List Bool×Bool×bZ×List Bool×bZ):=
 match s with
 | .c (.sl b off len false)=>
  match h b with
  | some (.rows sz rows true false)=>
   if sz=ti.size then
    some (o ++ [Z.not (Z.neq (Z.len new) 0),Z.wide ti.size new,Z.room len (Z.len new) ti.bytes],Z.neq (Z.fc off len) (Z.len rows),
     { val:=.c (.sl slot 0 (Z.fc len (Z.len new)) false),wr:=[(b,Co sz rows false),(slot,some (.rows sz (Z.ext rows off new) true false))],rd:=b::nF },
     [Z.fit (Z.fc off len) (Z.len new) rows],
     { val:=.c (.sl b off (Z.fc len (Z.len new)) false),wr:=[(b,some (.rows sz (Z.AU rows (Z.fc off len) new) true false))],rd:=b::nF })
   else none
  | _=>none
 | _=>none
def Kh (argTypes:Array TypeId):Option TI:=
 match argTypes[0]? with
 | some t=>match C.ty t with
  | some ti=>match ti.kind with
   | .slice e=>C.ty e
   | _=>none
  | none=>none
 | none=>none
def AW (ti:TI) (h:Hp) (d x:AV):OZ bZ:=
 match kt Z h x,d with
 | some (o,src,nF),.c (.sl b off len _)=>
  match h b with
  | some (.rows sz rows g false)=>
   if sz=ti.size then
    some (o ++ [Z.fit off len rows,Z.wide ti.size src,Z.le (Z.aW (Z.len src)) (Z.aW len)],{ val:=dM (.int .i64 (Z.aW (Z.len src))),wr:=[(b,some (.rows sz (Z.AU rows off src) g false))],rd:=b::nF })
   else none
  | _=>none
 | _,_=>none
def Ff (h:Hp) (t:TypeId) (x:AV):OZ bZ:=
 match C.ty t with
 | none=>none
 | some ti=>
  match ti.kind,x with
  | .slice _,.c (.sl _ _ len _)=>some ([],{ val:=dM (.int .i64 (Z.aW len)) })
  | .slice _,.c (.t (.aa _ rows))=>some ([],{ val:=dM (.int .i64 (Z.aW (Z.len rows))) })
  | _,_=>(nW C h t x).map fun e=>([],e)
def AX (gt:Bool):List AV->OZ bZ
 | [.c (.t (.v (.int k a))),.c (.t (.v (.int k' b)))]=>if k=k' then some ([],{ val:=dM (.int k (match gt with|true=>Z.max a b|false=>Z.min a b)) }) else none
 | _=>none
def vL (h:Hp) (t:TypeId) (x:AV) (lo hi mx:Option AV):OZ bZ:=
 match C.ty t with
 | none=>none
 | some ti=>
  match ti.kind,x,mx with
  | .slice e,.c (.sl b off len cp),none=>
   match h b,C.ty e with
   | some (.rows sz _ _ _),some te=>
    if sz=te.size then
     match lo,hi with
     | none,none=>some ([],{ val:=.c (.sl b off len cp),rd:=[b] })
     | none,some hv=>match hv.int? with
      | some e'=>some (match cp with
        | true=>[Z.cut 0 e' len,Z.eq e' (Z.aW len)]
        | false=>[Z.cut 0 e' len],{ val:=.c (.sl b off (Z.nat e') cp),rd:=[b] })
      | none=>none
     | some lv,none=>match lv.int? with
      | some l=>some ([Z.cut l (Z.aW len) len],{ val:=.c (.sl b (Z.idx off l) (Z.HF (Z.aW len) l) cp),rd:=[b] })
      | none=>none
     | some lv,some hv=>match lv.int?,hv.int? with
      | some l,some e'=>some (match cp with
        | true=>[Z.cut l e' len,Z.eq e' (Z.aW len)]
        | false=>[Z.cut l e' len],{ val:=.c (.sl b (Z.idx off l) (Z.HF e' l) cp),rd:=[b] })
      | _,_=>none
    else none
   | some (.var _),some _=>(db C h t (.c (.sl b off len cp)) lo hi none).map fun e=>([],e)
   | _,_=>none
  | .slice e,.c (.t (.aa cp rows)),none=>
   match C.ty e with
   | some te=>
    match lo,hi with
    | none,none=>(db C h t x none none none).map fun e=>([],e)
    | none,some hv=>match hv.int? with
     | some e'=>some ([Z.cut 0 e' (Z.len rows),Z.wide te.size rows],{ val:=.c (.t (.aa (match cp with|true=>Z.eq e' (Z.aW (Z.len rows))|false=>false) (Z.part rows 0 (Z.nat e')))) })
     | none=>none
    | some lv,none=>match lv.int? with
     | some l=>some ([Z.cut l (Z.aW (Z.len rows)) (Z.len rows),Z.wide te.size rows],{ val:=.c (.t (.aa cp (Z.part rows (Z.nat l) (Z.HF (Z.aW (Z.len rows)) l)))) })
     | none=>none
    | some lv,some hv=>match lv.int?,hv.int? with
     | some l,some e'=>some ([Z.cut l e' (Z.len rows),Z.wide te.size rows],{ val:=.c (.t (.aa (match cp with|true=>Z.eq e' (Z.aW (Z.len rows))|false=>false) (Z.part rows (Z.nat l) (Z.HF e' l)))) })
     | _,_=>none
   | none=>none
  | .slice e,.c (.sl b off len cp),some mv=>
   match h b,C.ty e,lo,hi with
   | some (.rows sz _ _ _),some te,none,some hv=>match hv.int?,mv.int? with
    | some e',some m'=>if sz=te.size then some ([Z.cut 0 e' len,Z.eq m' e'],{ val:=.c (.sl b off (Z.nat e') true),rd:=[b] }) else none
    | _,_=>none
   | _,_,_,_=>(db C h t (.c (.sl b off len cp)) lo hi (some mv)).map fun e=>([],e)
  | _,_,_=>(db C h t x lo hi mx).map fun e=>([],e)
def pf (h:Hp) (src dst:TypeId) (x:AV):OZ bZ:=
 match C.ty src,C.ty dst,x with
 | some ts,some td,.c (.t (.v (.int k0 n)))=>
  match ts.kind,td.kind with
  | .int _,.int k=>some ([],{ val:=dM (.int k (Z.wrap k n)) })
  | _,_=>(dV C h src dst x).map fun e=>([],e)
 | some ts,some td,x=>
  match ts.kind,td.kind with
  | .slice e,.string=>match C.ty e,kt Z h x with
   | some te,some (o,rows,rd)=>match te.kind,EH x with
    | .int .u8,true=>match Z.str rows with
     | some s=>some (o,{ val:=dM (.string s),rd:=rd })
     | none=>none
    | _,_=>none
   | _,_=>none
  | _,_=>(dV C h src dst x).map fun e=>([],e)
 | _,_,_=>(dV C h src dst x).map fun e=>([],e)
def nk (h:Hp) (size:Nat):List (List Tree)->List (Nat×AV)->OZ (List (List Tree)×List (Nat×Option aU))
 | rows,[]=>some ([],rows,[])
 | rows,(i,v)::rest=>
  match v.cells with
  | some x=>if x.length=size/\i<rows.length then
    match jW Z h x with
    | some (o,ts,m)=>match nk h size (rows.set i ts) rest with
     | some (os,r,ms)=>some (o++os,r,m++ms)
     | none=>none
    | none=>none
   else none
  | none=>none
def ux (s:ByteArray):Rows:=s.data.toList.map fun b=>[.v (.int .u8 b.toNat)]
def uy:List Cell->List Cell->Option Bool
 | [],[]=>some true
 | .t (.v (.int k a))::xs,.t (.v (.int k' b))::ys=>if k=k' then(uy xs ys).map fun r=>Z.eq a b&&r else none
 | _,_=>none
def ku (slot : Nat) (σ : Operand -> AV) (h : Hp) : Op -> OZ bZ
  | .binOp op t x y t'=> match σ x, σ y with
    | .c (.t (.v (.int k a))), .c (.t (.v (.int k' b)))=> match Kg Z (isConst y) op k a k' b with
      | some (o, v)=> some (o, { val := dM v })
      | none=> none
    | .c (.t (.v (.bool a))), .c (.t (.v (.bool b)))=> match C.ty t with
      | some ti=> match ti.kind, op with
        | .bool, .eql=> some ([], { val := dM (.bool (Z.beq a b)) })
        | .bool, .neq=> some ([], { val := dM (.bool (Z.bne a b)) })
        | _, _=> none
      | none=> none
    | .agg a, .agg b=> match ue C op t (uy Z a b) a.length b.length with
      | some e=> some ([], e)
      | none=> (Ae C op t a b).map fun e=> ([], e)
    | _, _=> (evalOp C slot σ h (.binOp op t x y t')).map fun e=> ([], e)
  | .unOp op _ x=> match σ x with
    | .c (.t (.v a))=> (Pz Z op a).map fun v=> ([], { val := dM v })
    | _=> none
  | .convert src dst x=> pf Z C h src dst (σ x)
  | .slice t x lo hi mx=> vL Z C h t (σ x) (lo.map σ) (hi.map σ) (mx.map σ)
  | .buildSlice t len parts=> match C.ty t with
    | some ti=> match ti.kind with
      | .slice e=> match C.ty e with
        | some te=> if len * te.size <= 2^24 /\ te.size≠0 then
            match pS C slot t te.size len (parts.toList.map fun p=> (p.1, σ p.2)) with
            | some e=> some ([], e)
            | none=> match nk Z h te.size (List.replicate len te.zero) (parts.toList.map fun p=> (p.1, σ p.2)) with
              | some (o, rows, m)=> some (o, { val := .c (.sl slot 0 len false), wr := m ++ [(slot, some (.rows te.size rows true false))], rd := ids m })
              | none=> none
          else none
        | none=> none
      | _=> none
    | none=> none
  | .load t a=> match C.ty t with
    | some ti=> match σ a with
      | .c (.ptr b r c)=> match h b with
        | some (.rows sz rows _ _)=>
          match ti.kind with
          | .int k=> if sz = 1 /\ c = 0 then some ([Z.gJ k rows r], { val := dM (.int k (Z.dL rows r)), rd := [b] }) else none
          | _=> match Z.nth rows r with
            | some row=> (da ti (row.map .t) c).map fun v=> ([], { val := v, rd := [b] })
            | none=> none
        | _=> (evalOp C slot σ h (.load t a)).map fun e=> ([], e)
      | _=> (evalOp C slot σ h (.load t a)).map fun e=> ([], e)
    | none=> none
  | .store t a x=> match C.ty t, (σ x).cells with
    | some ti, some cs=> match σ a with
      | .c (.ptr b r c)=> match h b with
        | some (.rows sz rows g false)=>
          if cs.length = ti.size then
          match ti.kind, cs with
          | .int k, [.t (.v (.int k' x))]=> if sz = 1 /\ c = 0 /\ k = k' then some ([Z.gJ k rows r], { wr := [(b, some (.rows sz (Z.nK k rows r x) g false))], rd := [b] }) else none
          | _, _=> match Z.nth rows r, jW Z h cs with
            | some row, some (o, ts, m)=> if c + ts.length <= row.length /\ !(ids m).contains b then some (o, { wr := m ++ [(b, some (.rows sz (Z.Dc rows r (bG row c ts)) g false))], rd := b::ids m }) else none
            | _, _=> none
          else none
        | _=> (evalOp C slot σ h (.store t a x)).map fun e=> ([], e)
      | _=> (evalOp C slot σ h (.store t a x)).map fun e=> ([], e)
    | _, _=> none
  | .makeSlice t l c=> match C.cs t with
   | true=> match C.ty t with
    | some ti=> match ti.kind with
      | .slice e=> match C.ty e, (σ l).int?, (σ c).int? with
        | some te, some n, some m=> match te.zero with
          | [z]=> if 1 <= te.bytes /\ te.size≠0 then
              some ([Z.my n m te.bytes], { val := .c (.sl slot 0 (Z.nat n) false), wr := [(slot, some (.var (List.replicate (Z.nat n) (.t z))))] }) else none
          | _=> none
        | _, _, _=> none
      | _=> none
    | none=> none
   | false=> match C.ty t with
    | some ti=> match ti.kind with
      | .slice e=> match C.ty e, (σ l).int?, (σ c).int? with
        | some te, some n, some m=> if 1 <= te.bytes /\ te.size≠0 then
            some ([Z.my n m te.bytes], { val := .c (.sl slot 0 (Z.nat n) false), wr := [(slot, some (.rows te.size (Z.rep (Z.nat n) te.zero) true false))] }) else none
        | _, _, _=> none
      | _=> none
    | none=> none
  | .indexAddr t x i=> match C.ty t, (σ i).int? with
    | some ti, some n=> match ti.kind with
      | .slice e=> match C.ty e with
        | some te=> match σ x with
          | .c (.sl b off len _)=> match h b with
            | some (.rows sz _ _ _)=> if sz = te.size then
                some ([Z.xo n len], { val := .c (.ptr b (Z.idx off n) 0), rd := [b] }) else none
            | some (.var _)=> (evalOp C slot σ h (.indexAddr t x i)).map fun e=> ([], e)
            | _=> none
          | .c (.t (.aa _ rows))=>
            match te.kind with
            | .int k=> if te.size = 1 then some ([Z.le 0 n, Z.gJ k rows (Z.nat n)], { val := .c (.tp [.v (.int k (Z.dL rows (Z.nat n)))] 0) }) else none
            | _=> match Z.nth rows (Z.nat n) with
              | some row=> if row.length = te.size then some ([Z.le 0 n], { val := .c (.tp row 0) }) else none
              | none=> none
          | _=> none
        | none=> none
      | .array len e=> match C.ty e with
        | some te=> match te.kind, σ x with
          | .int .i8, .c (.tp row c)=> if te.size = 1 then some ([Z.xo n len], { val := .c (.tp row (Z.idx c n)) }) else none
          | _, _=> (evalOp C slot σ h (.indexAddr t x i)).map fun e=> ([], e)
        | none=> none
      | _=> (evalOp C slot σ h (.indexAddr t x i)).map fun e=> ([], e)
    | _, _=> none
  | .call { callee := .builtin b, args, argTypes }=>
    match b, args.toList, argTypes[0]? with
    | .len, [x], some t=> Ff Z C h t (σ x)
    | .append, [s, x], some t=> match C.ty t with
      | some ti=> match ti.kind with
        | .slice e=> match C.ty e, argTypes[1]? with
          | some te, some t1=> match C.ty t1 with
            | some L9=> match L9.kind with
              | .slice _=> if te.size = 0∨te.bytes = 0 then none else so Z te slot h (σ s) (σ x)
              | _=> none
            | none=> none
          | _, _=> none
        | _=> none
      | none=> none
    | .copy, [d, x], some t=> match C.ty t with
      | some ti=> match ti.kind with
        | .slice e=> match C.ty e with
          | some te=> if te.size = 0 then none else AW Z te h (σ d) (σ x)
          | none=> none
        | _=> none
      | none=> none
    | .max, [x, y], _=> AX Z true [σ x, σ y]
    | .min, [x, y], _=> AX Z false [σ x, σ y]
    | _, _, _=> none
  | .index t x i=> match C.ty t, (σ i).int? with
    | some ti, some n=> match ti.kind, σ x with
      | .string, .c (.t (.v (.string s)))=> some ([Z.le 0 n, Z.gJ .u8 (ux s) (Z.nat n)], { val := dM (.int .u8 (Z.dL (ux s) (Z.nat n))) })
      | _, _=> (evalOp C slot σ h (.index t x i)).map fun e=> ([], e)
    | _, _=> none
  | .lookup t x i ok=> match C.ty t with
    | some ti=> match ti.kind, σ x, σ i with
      | .map k e, .c (.mp b), .c (.t (.v key))=> match h b, C.ty k, C.ty e, ok with
        | some (.map cF), some tk, some te, false=> match te.kind, te.zero, iE tk.kind key with
          | .bool, [.v (.bool false)], true=> some ([Z.MI cF key], { val := dM (.bool (Z.Dd cF key)), rd := [b] })
          | .int _, [z], true=> match Z.find cF key with
            | some (some t)=> some ([], { val := .c (.t t), rd := [b] })
            | some none=> some ([], { val := .c (.t z), rd := [b] })
            | none=> none
          | _, _, _=> (evalOp C slot σ h (.lookup t x i ok)).map fun e=> ([], e)
        | some (.map cF), some tk, some te, true=> match te.kind, te.zero, iE tk.kind key with
          | .int _, [z], true=> match Z.find cF key with
            | some (some t)=> some ([], { val := .oD [.c (.t t), dM (.bool true)], rd := [b] })
            | some none=> some ([], { val := .oD [.c (.t z), dM (.bool false)], rd := [b] })
            | none=> none
          | _, _, _=> (evalOp C slot σ h (.lookup t x i ok)).map fun e=> ([], e)
        | _, _, _, _=> (evalOp C slot σ h (.lookup t x i ok)).map fun e=> ([], e)
      | _, _, _=> none
    | none=> none
  | .mapUpdate t x i v=> match C.ty t with
    | some ti=> match ti.kind, σ x, σ i, σ v with
      | .map k e, .c (.mp b), .c (.t (.v key)), .c (.t (.v (.bool y)))=> match h b, C.ty k, C.ty e with
        | some (.map cF), some tk, some te=> match te.kind, iE tk.kind key with
          | .bool, true=> some ([Z.MI cF key], { wr := [(b, some (.map (Z.HG cF key (.v (.bool y)))))], rd := [b] })
          | _, _=> (evalOp C slot σ h (.mapUpdate t x i v)).map fun e=> ([], e)
        | _, _, _=> none
      | .map k e, .c (.mp b), .c (.t (.v key)), .c (.t (.v (.int ik y)))=> match h b, C.ty k with
        | some (.map cF), some tk=> match iE tk.kind key, Z.find cF key with
          | true, some _=> some ([], { wr := [(b, some (.map (Z.HG cF key (.v (.int ik y)))))], rd := [b] })
          | _, _=> none
        | _, _=> none
      | _, _, _, _=> (evalOp C slot σ h (.mapUpdate t x i v)).map fun e=> ([], e)
    | none=> none
  | op=> (evalOp C slot σ h op).map fun e=> ([], e)
end
theorem tE {h:Hp} {c:Cell} {o:List Bool} {t:Tree} {m:List (Nat×Option aU)} (e:uv ZI.b9 h c=some (o,t,m)) (ho:eY o):toTree h c=some (t,m):=by
 unfold uv at e;unfold toTree;split at e
 ·cases e;rfl
 ·split at e
  ·rename_i hb
   cases e;have:=ho _ (List.mem_singleton.2 rfl);simp only[hb];rw[if_pos (by simpa[ZI.b9]using this)];rfl
  ·cases e
 ·cases e
theorem fj {a b:List Bool} (h:eY (a++b)):eY a/\eY b:=
 ⟨fun x hx=>h x (List.mem_append_left _ hx),fun x hx=>h x (List.mem_append_right _ hx)⟩
theorem iH {h:Hp}:∀ {cs:List Cell} {o:List Bool} {ts:List Tree} {m:List (Nat×Option aU)},jW ZI.b9 h cs=some (o,ts,m)->eY o->bL h cs=some (ts,m)
 | [],o,ts,m,e,ho=>by cases e;rfl
 | c::cs,o,ts,m,e,ho=>by
  unfold jW at e;split at e
  ·rename_i o1 t1 m1 h1
   split at e
   ·rename_i os1 ts1 ms1 h2
    cases e;obtain⟨a,b⟩:=fj ho;unfold bL;rw[tE h1 a,iH h2 b]
   ·cases e
  ·cases e
theorem NZ {h:Hp} {x:AV} {o:List Bool} {r:Rows} {rd:List Nat} (e:kt ZI.b9 h x=some (o,r,rd)) (ho:eY o):rowsOf h x=some (r,rd):=by
 unfold kt at e;unfold rowsOf;split at e
 ·cases e;rfl
 ·split at e
  ·rename_i hb
   cases e;have:=ho _ (List.mem_singleton.2 rfl);simp only[hb];rw[if_pos (by simpa[ZI.b9]using this)];rfl
  ·rename_i hb
   cases e;have:=ho _ (List.mem_singleton.2 rfl);simp only[hb];rw[if_pos (by simpa[ZI.b9]using this)];rfl
  ·cases e
 ·cases e;rfl
 ·cases e
theorem xp {ti:TI} {slot:Nat} {h:Hp} {s x:AV} {o:List Bool} {e:bZ} (he:so ZI.b9 ti slot h s x=some (o,e)) (ho:eY o):bY ti slot h s x=some e:=by
 unfold so at he;unfold bY;split at he
 ·split at he
  ·rename_i e1 h1
   cases he;rw[tj h1];exact h1
  ·cases he
 ·rename_i o1 new nF hx
  split at he
  ·rename_i rows
   cases he;obtain⟨a,b⟩:=fj ho;rw[NZ hx a];simp only[eY,ZI.b9,List.mem_cons,List.not_mem_nil,or_false,forall_eq_or_imp,forall_eq,Bool.not_eq_true',decide_eq_true_eq,decide_eq_false_iff_not]at b;obtain⟨b1,b2,b3,b4⟩:=b;simp only[ZI.b9];rw[if_neg b1,b2];simp only[Bool.not_true,Bool.false_eq_true,if_false,b3,Bool.true_and,decide_eq_true_eq,b4,if_true];simp
  ·rename_i b off len
   split at he
   ·rename_i sz rows fz hb
    split at he
    ·rename_i dG
     cases he;obtain⟨a,c⟩:=fj ho;rw[NZ hx a];simp only[eY,ZI.b9,List.mem_cons,List.not_mem_nil,or_false,forall_eq_or_imp,forall_eq,Bool.not_eq_true',decide_eq_true_eq,decide_eq_false_iff_not]at c;obtain⟨b1,b2,b3,b4⟩:=c;simp only[ZI.b9];rw[if_neg b1,b2];simp only[Bool.not_true,Bool.false_eq_true,if_false,hb];rw[if_neg (fun hn=>hn ⟨dG,b3,by omega⟩),if_pos b4];simp
    ·cases he
   ·cases he
  ·rename_i b off len
   split at he
   ·rename_i sz rows g fz hb
    split at he
    ·rename_i dG
     cases he;obtain⟨a,c⟩:=fj ho;rw[NZ hx a];simp only[eY,ZI.b9,List.mem_cons,List.not_mem_nil,or_false,forall_eq_or_imp,forall_eq,Bool.not_eq_true',decide_eq_true_eq,decide_eq_false_iff_not]at c;obtain⟨b1,b2,b3,b4⟩:=c;simp only[ZI.b9];rw[if_neg b1,b2];simp only[Bool.not_true,Bool.false_eq_true,if_false,hb];rw[if_neg (fun hn=>hn ⟨dG,b3,b4⟩)];simp
    ·cases he
   ·cases he
  ·cases he
theorem Fg {ti:TI} {slot:Nat} {h:Hp} {s x:AV} {o oc Th:List Bool} {new:Rows} {nF:List Nat} {c:Bool} {eg e2:bZ} (he:Fe ZI.b9 ti slot h s o new nF=some (oc,c,eg,Th,e2)) (hx:kt ZI.b9 h x=some (o,new,nF)) (ho:eY oc) :
  (c=true->bY ti slot h s x=some eg)/\(c=false->eY Th->bY ti slot h s x=some e2):=by
 unfold Fe at he;split at he
 ·rename_i b off len
  split at he
  ·rename_i sz rows hb
   split at he
   ·rename_i dG
    simp only[Option.some.injEq,Prod.mk.injEq]at he;obtain⟨rfl,rfl,rfl,rfl,rfl⟩:=he;obtain⟨a,c⟩:=fj ho;simp only[eY,ZI.b9,List.mem_cons,List.not_mem_nil,or_false,forall_eq_or_imp,forall_eq,Bool.not_eq_true',decide_eq_true_eq,decide_eq_false_iff_not]at c;obtain⟨b1,b2,b3⟩:=c;refine⟨fun b4=>?_,fun b4 b5=>?_⟩
    ·simp only[ZI.b9,decide_eq_true_eq]at b4
     unfold bY;rw[NZ hx a];simp only[ZI.b9];rw[if_neg b1,b2];simp only[Bool.not_true,Bool.false_eq_true,if_false,hb];rw[if_neg (fun hn=>hn ⟨dG,b3,by omega⟩),if_pos b4];simp
    ·simp only[ZI.b9,decide_eq_false_iff_not]at b4
     simp only[eY,ZI.b9,List.mem_cons,List.not_mem_nil,or_false,forall_eq,decide_eq_true_eq]at b5;unfold bY;rw[NZ hx a];simp only[ZI.b9];rw[if_neg b1,b2];simp only[Bool.not_true,Bool.false_eq_true,if_false,hb];rw[if_neg (fun hn=>hn ⟨dG,b3,by omega⟩),if_neg b4,if_pos ⟨b5,trivial⟩]
   ·cases he
  ·cases he
 ·cases he
theorem De {ti:TI} {h:Hp} {d x:AV} {o:List Bool} {e:bZ} (he:AW ZI.b9 ti h d x=some (o,e)) (ho:eY o):kf ti h d x=some e:=by
 unfold AW at he;unfold kf;split at he
 ·rename_i o1 src nF b off len cp hx
  split at he
  ·rename_i sz rows g hb
   split at he
   ·rename_i dG
    cases he;obtain⟨a,c⟩:=fj ho;rw[NZ hx a];simp only[eY,ZI.b9,List.mem_cons,List.not_mem_nil,or_false,forall_eq_or_imp,forall_eq,decide_eq_true_eq]at c;obtain⟨b1,b2,b3⟩:=c;have Pj:min src.length len=src.length:=by omega
    simp only[ZI.b9,hb];rw[if_pos ⟨b1,b2,dG⟩,Pj];simp
   ·cases he
  ·cases he
 ·cases he
theorem Fh {C:dP} {h:Hp} {t:TypeId} {x:AV} {o:List Bool} {e:bZ} (he:Ff ZI.b9 C h t x=some (o,e)):nW C h t x=some e:=by
 unfold Ff at he;split at he
 ·cases he
 ·rename_i ti cB
  split at he
  ·rename_i hk;cases he;simp only[nW,cB,hk];rfl
  ·rename_i hk;cases he;simp only[nW,cB,hk];rfl
  ·obtain⟨e',h1,h2⟩:=Option.map_eq_some_iff.1 he
   cases h2;exact h1
theorem vM {gt:Bool} {l:List AV} {o:List Bool} {e:bZ} (he:AX ZI.b9 gt l=some (o,e)):xI gt l=some e:=by
 unfold AX at he;unfold xI;split at he
 ·split at he
  ·rename_i hk
   cases he;simp only[hk,if_true];cases gt<;>rfl
  ·cases he
 ·cases he
theorem iA {a:Bool} (h:eY [a]):a=true:=h a (by simp)
theorem tG {a b:Bool} (h:eY [a,b]):a=true/\b=true:=⟨h a (by simp),h b (by simp)⟩
theorem AY {C:dP} {h:Hp} {t:TypeId} {x:AV} {lo hi mx:Option AV} {o:List Bool} {e:bZ} (he:vL ZI.b9 C h t x lo hi mx=some (o,e)) (ho:eY o):db C h t x lo hi mx=some e:=by
 unfold vL at he;split at he
 ·cases he
 ·rename_i ti cB
  split at he
  ·rename_i e1 b off len cp hk
   split at he
   ·rename_i sz rows g fz te hb de
    split at he
    ·rename_i dG
     split at he
     ·cases he
      simp only[db,cB,hk,hb,de,Option.getD_none];rw[if_pos (by omega),if_pos (by simp[dG])];simp
     ·rename_i hv
      split at he
      ·rename_i e' hint
       cases he;cases cp
       ·have:=iA ho
        simp only[ZI.b9,decide_eq_true_eq]at this;simp only[db,cB,hk,hb,de,hint,Option.map_some,Option.getD_some,ZI.b9];rw[if_pos this,if_pos (by simp[dG])];simp
       ·obtain⟨h1,h2⟩:=tG ho
        simp only[ZI.b9,decide_eq_true_eq]at h1 h2;simp only[db,cB,hk,hb,de,hint,Option.map_some,Option.getD_some,ZI.b9];rw[if_pos h1,if_pos (by simp[dG,h2])];simp
      ·cases he
     ·rename_i lv
      split at he
      ·rename_i l hint
       cases he;have:=iA ho;simp only[ZI.b9,decide_eq_true_eq]at this;simp only[db,cB,hk,hb,de,hint,Option.getD_none,ZI.b9];rw[if_pos this,if_pos (by simp[dG])]
      ·cases he
     ·rename_i lv hv
      split at he
      ·rename_i l e' hl hint
       cases he;cases cp
       ·have:=iA ho
        simp only[ZI.b9,decide_eq_true_eq]at this;simp only[db,cB,hk,hb,de,hl,hint,Option.map_some,Option.getD_some,ZI.b9];rw[if_pos this,if_pos (by simp[dG])]
       ·obtain⟨h1,h2⟩:=tG ho
        simp only[ZI.b9,decide_eq_true_eq]at h1 h2;simp only[db,cB,hk,hb,de,hl,hint,Option.map_some,Option.getD_some,ZI.b9];rw[if_pos h1,if_pos (by simp[dG,h2])]
      ·cases he
    ·cases he
   ·obtain⟨e',h1,h2⟩:=Option.map_eq_some_iff.1 he
    cases h2;exact h1
   ·cases he
  ·rename_i e1 cp rows hk
   split at he
   ·rename_i te de
    split at he
    ·obtain⟨e',h1,h2⟩:=Option.map_eq_some_iff.1 he
     cases h2;exact h1
    ·rename_i hv
     split at he
     ·rename_i e' hint
      cases he;obtain⟨h1,h2⟩:=tG ho;simp only[ZI.b9,decide_eq_true_eq]at h1 h2;simp only[db,cB,hk,de,hint,Option.map_some,Option.getD_some,ZI.b9];rw[if_pos h1,if_pos h2];cases cp<;>simp[Bool.beq_eq_decide_eq]
     ·cases he
    ·rename_i lv
     split at he
     ·rename_i l hint
      cases he;obtain⟨h1,h2⟩:=tG ho;simp only[ZI.b9,decide_eq_true_eq]at h1 h2;simp only[db,cB,hk,de,hint,Option.getD_none,ZI.b9];rw[if_pos h1,if_pos h2];simp
     ·cases he
    ·rename_i lv hv
     split at he
     ·rename_i l e' hl hint
      cases he;obtain⟨h1,h2⟩:=tG ho;simp only[ZI.b9,decide_eq_true_eq]at h1 h2;simp only[db,cB,hk,de,hl,hint,Option.map_some,Option.getD_some,ZI.b9];rw[if_pos h1,if_pos h2];cases cp<;>simp[Bool.beq_eq_decide_eq]
     ·cases he
   ·cases he
  ·rename_i e1 b off len cp mv hk
   split at he
   ·rename_i sz rows g fz te hv hb de
    split at he
    ·rename_i e' m' hint hm
     split at he
     ·rename_i dG
      cases he;obtain⟨h1,h2⟩:=tG ho;simp only[ZI.b9,decide_eq_true_eq]at h1 h2;simp only[db,cB,hk,hb,de,hint,hm,Option.map_some,Option.getD_some,ZI.b9];rw[if_pos h1,if_pos ⟨h2,rfl,dG⟩];simp
     ·cases he
    ·cases he
   ·obtain⟨e',h1,h2⟩:=Option.map_eq_some_iff.1 he
    cases h2;exact h1
  ·obtain⟨e',h1,h2⟩:=Option.map_eq_some_iff.1 he
   cases h2;exact h1
theorem vN {C:dP} {h:Hp} {src dst:TypeId} {x:AV} {o:List Bool} {e:bZ} (he:pf ZI.b9 C h src dst x=some (o,e)) (ho:eY o):dV C h src dst x=some e:=by
 unfold pf at he;split at he
 ·rename_i ts td k0 n h1 h2
  split at he
  ·rename_i k1 k2 e1 e2
   cases he;simp only[dV,h1,h2,e1,e2];rfl
  ·obtain⟨e',q1,q2⟩:=Option.map_eq_some_iff.1 he
   cases q2;exact q1
 ·rename_i ts td x0 h1 h2 hn
  split at he
  ·rename_i e0 k1 k2
   split at he
   ·rename_i te o2 rows rd de hr
    split at he
    ·rename_i q1 q2
     split at he
     ·rename_i s hs
      cases he;have EL:=NZ hr ho;obtain⟨b,tX,mc⟩:=Option.map_eq_some_iff.1 (show(dU rows).map _=some s from hs);subst mc;unfold dV;simp only[h1,h2,k1,k2,de,EL,q1,q2,tX]
     ·cases he
    ·cases he
   ·cases he
  ·obtain⟨e',q1,q2⟩:=Option.map_eq_some_iff.1 he
   cases q2;exact q1
 ·obtain⟨e',q1,q2⟩:=Option.map_eq_some_iff.1 he
  cases q2;exact q1
theorem oh {h:Hp} {size:Nat}:∀ {l:List (Nat×AV)} {rows r:List (List Tree)} {o:List Bool} {m:List (Nat×Option aU)},nk ZI.b9 h size rows l=some (o,r,m)->eY o->eR h size rows l=some (r,m)
 | [],rows,r,o,m,he,ho=>by cases he;rfl
 | (i,v)::rest,rows,r,o,m,he,ho=>by
  unfold nk at he;unfold eR;split at he
  ·rename_i x hx
   split at he
   ·rename_i hc
    split at he
    ·rename_i o1 ts m1 h1
     split at he
     ·rename_i os r1 ms h2
      cases he;obtain⟨a,b⟩:=fj ho;simp only[hx];rw[if_pos hc,iH h1 a];simp only;rw[oh h2 b]
     ·cases he
    ·cases he
   ·cases he
  ·cases he
theorem mA {k:Value} {t:Tree}:∀ {l:List (Value×Tree)} {r:Option Tree},cJ k l=some r->∃l',fq k t l=some l'
 | [],r,h=>⟨_,rfl⟩
 | e::es,r,h=>by
  simp only[cJ]at h;simp only[fq];split at h
  ·exact⟨_,rfl⟩
  ·rename_i hk
   obtain⟨l',hl⟩:=mA (t:=t) h;exact⟨_,by rw[hl];rfl⟩
  ·cases h
theorem uz {k:IntKind} {l:Rows} {i:Nat} (h:ZI.b9.gJ k l i=true):l[i]?=some [.v (.int k (ZI.b9.dL l i))]:=by
 simp only[ZI.b9]at h ⊢;split at h
 ·rename_i k' x hx
  rw[hx];simp only[beq_iff_eq]at h;subst h;rfl
 ·cases h
theorem Df:∀(a b:List Cell),uy ZI.b9 a b=jC a b:=by
 intro a
 induction a with
 | nil=>intro b;cases b<;>rfl
 | cons c a ih=>
  intro b;unfold uy jC;split<;>simp_all<;>rfl
theorem mB {C:dP} {slot:Nat} {σ:Operand->AV} {h:Hp} {op:Op} {o:List Bool} {e:bZ} (he:ku ZI.b9 C slot σ h op=some (o,e)) (ho:eY o):evalOp C slot σ h op=some e:=by
 have nL:∀ {q:Option bZ},(q.map fun e=>(([]:List Bool),e))=some (o,e)->q=some e:=fun {q} hq=>by
  obtain⟨e',h1,h2⟩:=Option.map_eq_some_iff.1 hq;cases h2;exact h1
 unfold ku at he;split at he
 ·rename_i op t x y t'
  split at he
  ·rename_i k a k' b hx hy
   split at he
   ·rename_i o1 v h1
    cases he;simp only[evalOp,hx,hy,HH h1 ho,Option.map_some]
   ·cases he
  ·rename_i a b hx hy
   split at he
   ·rename_i ti cB
    split at he
    ·rename_i hk;cases he;simp only[evalOp,hx,hy,cB,hk];rfl
    ·rename_i hk;cases he;simp only[evalOp,hx,hy,cB,hk];rfl
    ·cases he
   ·cases he
  ·rename_i a b hx hy
   rw[Df]at he;simp only[evalOp,hx,hy];split at he
   ·rename_i e1 h1
    cases he;rw[h1]
   ·rename_i h1
    rw[h1];exact nL he
  ·exact nL he
 ·rename_i op t x
  split at he
  ·rename_i a hx
   simp only[evalOp,hx];obtain⟨v,h1,h2⟩:=Option.map_eq_some_iff.1 he;cases h2;have:US op a=Pz ZI.b9 op a:=by unfold US Pz ZI.b9;rfl
   rw[this,h1];rfl
  ·cases he
 ·exact vN he ho
 ·exact AY he ho
 ·rename_i t len parts
  simp only[evalOp];split at he
  ·rename_i ti cB
   split at he
   ·rename_i el hk
    split at he
    ·rename_i te de
     split at he
     ·rename_i hc
      split at he
      ·rename_i e1 h1
       cases he;simp only[cB,hk,de];rw[if_pos hc,h1]
      ·rename_i h0
       split at he
       ·rename_i o1 rows m h1
        cases he;simp only[cB,hk,de];rw[if_pos hc,h0,oh h1 ho]
       ·cases he
     ·cases he
    ·cases he
   ·cases he
  ·cases he
 ·rename_i t a
  split at he
  ·rename_i ti cB
   split at he
   ·rename_i b r c hx
    split at he
    ·rename_i sz rows g fz hb
     split at he
     ·rename_i k hk
      split at he
      ·rename_i hc
       cases he;obtain⟨rfl,rfl⟩:=hc;have:=uz (iA ho);simp only[evalOp,cB,hx,hb,this,hk,TK.agg,da];simp[dM]
      ·cases he
     ·split at he
      ·rename_i row dv
       have Dg:rows[r]?=some row:=dv;simp only[evalOp,cB,hx,hb,Dg];obtain⟨v,h1,h2⟩:=Option.map_eq_some_iff.1 he;cases h2;rw[h1];rfl
      ·cases he
    ·exact nL he
   ·exact nL he
  ·cases he
 ·rename_i t a x
  split at he
  ·rename_i ti cs cB oF
   split at he
   ·rename_i b r c hx
    split at he
    ·rename_i sz rows g hb
     split at he
     ·rename_i hlen
      split at he
      ·rename_i k k' n hk
       split at he
       ·rename_i hc
        cases he;obtain⟨rfl,rfl,rfl⟩:=hc;have:=uz (iA ho);simp only[evalOp,cB,oF,hx,hb,this];rw[if_pos hlen];simp only[bL,toTree,List.append_nil];rw[if_pos (by simp[ids])];simp[bG,ids,ZI.b9]
       ·cases he
      ·split at he
       ·rename_i row o1 ts m dv h1
        split at he
        ·rename_i hc
         cases he;have Dg:rows[r]?=some row:=dv;simp only[evalOp,cB,oF,hx,hb,Dg,iH h1 ho];rw[if_pos hlen,if_pos hc];rfl
        ·cases he
       ·cases he
     ·cases he
    ·exact nL he
   ·exact nL he
  ·cases he
 ·rename_i t l c
  split at he
  ·rename_i oF
   simp only[evalOp];split at he
   ·rename_i ti cB
    split at he
    ·rename_i el hk
     split at he
     ·rename_i te n m de hn hm
      split at he
      ·rename_i z hz
       split at he
       ·rename_i hc
        cases he;have:=iA ho;simp only[ZI.b9,decide_eq_true_eq]at this;simp only[cB,hk,de,hn,hm];rw[if_pos ⟨this.1,this.2.1,this.2.2,hc.1,hc.2⟩];simp only[oF,hz];rfl
       ·cases he
      ·cases he
     ·cases he
    ·cases he
   ·cases he
  rename_i oF;simp only[evalOp];split at he
  ·rename_i ti cB
   split at he
   ·rename_i el hk
    split at he
    ·rename_i te n m de hn hm
     split at he
     ·rename_i hc
      cases he;have:=iA ho;simp only[ZI.b9,decide_eq_true_eq]at this;simp only[cB,hk,de,hn,hm];rw[if_pos ⟨this.1,this.2.1,this.2.2,hc.1,hc.2⟩];simp only[oF];rfl
     ·cases he
    ·cases he
   ·cases he
  ·cases he
 ·rename_i t x i
  split at he
  ·rename_i ti n cB hn
   split at he
   ·rename_i el hk
    split at he
    ·rename_i te de
     split at he
     ·rename_i b off len cp hx
      split at he
      ·rename_i sz rows g fz hb
       split at he
       ·rename_i dG
        cases he;have:=iA ho;simp only[ZI.b9,decide_eq_true_eq]at this;simp only[evalOp,cB,hn,hk,de,hx,hb];rw[if_pos ⟨this.1,this.2,dG⟩];rfl
       ·cases he
      ·exact nL he
      ·cases he
     ·rename_i cp rows hx
      split at he
      ·rename_i k Hj
       split at he
       ·rename_i dG
        cases he;obtain⟨h1,h2⟩:=tG ho;have Gp:=uz h2;simp only[ZI.b9,decide_eq_true_eq]at h1;have Xm:rows[n.toNat]?=some [.v (.int k (ZI.b9.dL rows (ZI.b9.nat n)))]:=Gp;simp only[evalOp,cB,hn,hk,de,hx,Xm];rw[if_pos h1,if_pos (by simp[dG])]
       ·cases he
      ·split at he
       ·rename_i row dv
        split at he
        ·rename_i dG
         cases he;have h1:=iA ho;simp only[ZI.b9,decide_eq_true_eq]at h1;have Dg:rows[n.toNat]?=some row:=dv;simp only[evalOp,cB,hn,hk,de,hx,Dg];rw[if_pos h1,if_pos dG]
        ·cases he
       ·cases he
     ·cases he
    ·cases he
   ·rename_i len el hk
    split at he
    ·rename_i te de
     split at he
     ·rename_i row c Hj hx
      split at he
      ·rename_i dG
       cases he;have:=iA ho;simp only[ZI.b9,decide_eq_true_eq]at this;simp only[evalOp,cB,hn,hk,de,hx];rw[if_pos ⟨this.1,this.2⟩,dG,Nat.mul_one];rfl
      ·cases he
     ·exact nL he
    ·cases he
   ·exact nL he
  ·cases he
 ·rename_i b args argTypes
  simp only[evalOp];split at he
  ·rename_i x t hx ht
   simp only[ht,hx];exact Fh he
  ·rename_i s x t hx ht
   simp only[ht,hx];split at he
   ·rename_i ti cB
    split at he
    ·rename_i el hk
     split at he
     ·rename_i te t1 de xg
      split at he
      ·rename_i L9 AD
       split at he
       ·rename_i e1 Em
        split at he
        ·cases he
        ·rename_i hz
         simp only[cB,hk,de,xg,AD,Em];rw[if_neg hz];exact xp he ho
       ·cases he
      ·cases he
     ·cases he
    ·cases he
   ·cases he
  ·rename_i d x t hx ht
   simp only[ht,hx];split at he
   ·rename_i ti cB
    split at he
    ·rename_i el hk
     split at he
     ·rename_i te de
      split at he
      ·cases he
      ·rename_i hz
       simp only[cB,hk,de];rw[if_neg hz];exact De he ho
     ·cases he
    ·cases he
   ·cases he
  ·rename_i x y hx
   simp only[hx];exact vM he
  ·rename_i x y hx
   simp only[hx];exact vM he
  ·cases he
 ·rename_i t x i
  split at he
  ·rename_i ti n cB hn
   split at he
   ·rename_i s hk hx
    cases he;obtain⟨h1,h2⟩:=tG ho;simp only[ZI.b9,decide_eq_true_eq]at h1;have h3:=uz h2;simp only[evalOp,cB,hn,hk,hx];rw[if_pos h1];have h4:(ux s)[ZI.b9.nat n]?=(s.data.toList[n.toNat]?).map fun b=>[Tree.v (.int .u8 b.toNat)]:=by
     unfold ux;rw[List.getElem?_map];rfl
    rw[h4]at h3;obtain⟨b,hb,mc⟩:=Option.map_eq_some_iff.1 h3;have h5:s[n.toNat]?=some b:=by
     have bH:n.toNat<s.data.toList.length:=(List.getElem?_eq_some_iff.1 hb).1;have rT:n.toNat<s.size:=bH;have e1:=(List.getElem?_eq_some_iff.1 hb).2;rw[getElem?_pos s n.toNat rT];congr 1
    rw[h5];simp only[Option.some.injEq];simp only[List.cons.injEq,Tree.v.injEq,Value.int.injEq,true_and,and_true]at mc;rw[<-mc]
   ·exact nL he
  ·cases he
 ·rename_i t x i ok
  split at he
  ·rename_i ti cB
   split at he
   ·rename_i k e1 b key hk hx hi
    split at he
    ·rename_i cF tk te hb il de
     split at he
     ·rename_i q1 q2 q3
      cases he;have h1:=iA ho;simp only[evalOp,cB,hk,hx,hi,hb,il,de,q3,q1,TK.agg,Bool.not_true,Bool.or_self,Bool.false_eq_true,if_false,q2];simp only[ZI.b9]at h1 ⊢;split at h1
      ·rename_i hf;simp[hf,dM]
      ·rename_i bb hf;simp[hf,dM]
      ·cases h1
     ·rename_i ik z q1 q2 q3
      split at he
      ·rename_i t0 hf
       cases he;simp only[evalOp,cB,hk,hx,hi,hb,il,de,q3,q1,TK.agg,Bool.not_true,Bool.or_self,Bool.false_eq_true,if_false,q2,show cJ key cF=some (some t0) from hf]
      ·rename_i hf
       cases he;simp only[evalOp,cB,hk,hx,hi,hb,il,de,q3,q1,TK.agg,Bool.not_true,Bool.or_self,Bool.false_eq_true,if_false,q2,show cJ key cF=some none from hf]
      ·cases he
     ·exact nL he
    ·rename_i cF tk te hb il de
     split at he
     ·rename_i ik z q1 q2 q3
      split at he
      ·rename_i t0 hf
       cases he;simp only[evalOp,cB,hk,hx,hi,hb,il,de,q3,q1,TK.agg,Bool.not_true,Bool.or_self,Bool.false_eq_true,if_false,if_true,q2,show cJ key cF=some (some t0) from hf]
      ·rename_i hf
       cases he;simp only[evalOp,cB,hk,hx,hi,hb,il,de,q3,q1,TK.agg,Bool.not_true,Bool.or_self,Bool.false_eq_true,if_false,if_true,q2,show cJ key cF=some none from hf]
      ·cases he
     ·exact nL he
    ·exact nL he
   ·cases he
  ·cases he
 ·rename_i t x i v
  split at he
  ·rename_i ti cB
   split at he
   ·rename_i k e1 b key y hk hx hi hv
    split at he
    ·rename_i cF tk te hb il de
     split at he
     ·rename_i q1 q2
      cases he;have h1:=iA ho;simp only[evalOp,cB,hk,hx,hi,hv,hb,il,q2,Bool.not_true,Bool.false_eq_true,if_false];obtain⟨es,Xn⟩:∃es,fq key (.v (.bool y)) cF=some es:=by
       have:cJ key cF≠none:=by
        intro hn;simp only[ZI.b9,hn]at h1;cases h1
       obtain⟨r,hr⟩:=Option.ne_none_iff_exists'.1 this;exact mA hr
      simp only[Xn,ZI.b9,Option.getD_some]
     ·exact nL he
    ·cases he
   ·rename_i k e1 b key ik y hk hx hi hv
    split at he
    ·rename_i cF tk hb il
     split at he
     ·rename_i r q1 q2
      cases he;obtain⟨es,Xn⟩:=mA (t:=.v (.int ik y)) (show cJ key cF=some r from q2);simp only[evalOp,cB,hk,hx,hi,hv,hb,il,q1,Bool.not_true,Bool.false_eq_true,if_false,Xn,ZI.b9,Option.getD_some]
     ·cases he
    ·cases he
   ·exact nL he
  ·cases he
 ·exact nL he
section
variable (Z:ZI) (C:dP)
def GF (h:Hp):AV->OZ (TV×List (Nat×Option aU))
 | .c c=>match uv Z h c with
  | some (o,t,m)=>some (o,.c t,m)
  | none=>none
 | .agg l=>match jW Z h l with
  | some (o,ts,m)=>some (o,.agg ts,m)
  | none=>none
 | _=>none
def vO (h:Hp):Mode->AV->OZ (Arg×List (Nat×Option aU)×bI)
 | .val,.c (.dj f a8)=>some ([],.dj f a8,[],.none)
 | .val,x=>match GF Z h x with
  | some (o,v,m)=>some (o,.val v,m,.none)
  | none=>none
 | .eP,.c (.sl b off len false)=>match h b with
  | some (.rows sz rows _ false)=>some ([Z.fit off len rows],.eP sz (Z.part rows off len),[],.eP b off len)
  | _=>none
 | .own sz,.c (.sl b 0 len false)=>match h b with
  | some (.rows ke rows true false)=>if ke=sz then some ([Z.neq len (Z.len rows)],.own sz rows,[],.own b) else none
  | _=>none
 | .own sz,.c (.t (.aa true []))=>some ([],.own sz [],[],.none)
 | .rd,.c (.sl b off len false)=>match h b with
  | some (.rows sz rows _ false)=>some ([Z.fit off len rows],.eP sz (Z.part rows off len),[],.eP b off len)
  | _=>none
 | .rd,x=>match GF Z h x with
  | some (o,v,m)=>some (o,.val v,m,.none)
  | none=>none
 | .ref,.c (.ptr b 0 0)=>match h b with
  | some (.var cells)=>match bL h cells with
   | some (ts,[])=>some ([],.ref ts,[],.ref b)
   | _=>none
  | _=>none
 | _,_=>none
def jX (h:Hp):List Mode->List AV->OZ (List Arg×List (Nat×Option aU)×List bI)
 | [],[]=>some ([],[],[],[])
 | m::ms,x::xs=>match vO Z h m x,jX h ms xs with
  | some (o,a,k,b),some (os,as,ks,bs)=>some (o++os,a::as,k++ks,b::bs)
  | _,_=>none
 | _,_=>none
def sr (h:Hp) (ms:List Mode) (xs:List AV):OZ (List Arg×List (Nat×Option aU)×List bI):=
 match jX Z h ms xs with
 | none=>none
 | some (o,as,ks,bs)=>match oa as []with
  | []=>some (o,as,ks,bs)
  | g::gs=>match jF h (g::gs) with
   | some xT=>some (o,oP (g::gs) as.length as++xT,ks,bs++qk (g::gs))
   | none=>none
def gP (h:Hp):List bI->List (Option aU)->OZ (List (Nat×Option aU))
 | [],[]=>some ([],[])
 | .none::bs,_::os=>gP h bs os
 | .own b::bs,_::os=>(gP h bs os).map fun p=>(p.1,(b,none)::p.2)
 | .eP b off len::bs,some (.rows sz r false false)::os=>match h b with
  | some (.rows ke rows g false)=>if ke=sz then(gP h bs os).map fun p=>(Z.neq (Z.len r) len::p.1,(b,some (.rows ke (Z.AU rows off r) g false))::p.2) else none
  | _=>none
 | .ref b::bs,some (.var cs)::os=>match h b with
  | some (.var fR)=>if cs.length=fR.length then(gP h bs os).map fun p=>(p.1,(b,some (.var cs))::p.2) else none
  | _=>none
 | _,_=>none
def nn (slot:Nat):List RC->List AV×List (Nat×Option aU)
 | []=>([],[])
 | .val x::rs=>match nn slot rs with
  | (a,b)=>(x.av::a,b)
 | .own sz rows::rs=>match nn (slot+1) rs with
  | (a,b)=>(.c (.sl slot 0 (Z.len rows) false)::a,(slot,some (.rows sz rows true false))::b)
def vR (h:Hp) (slot:Nat) (marks:List (Nat×Option aU)) (dE:List bI) (res:lJ):OZ bZ:=
 match nn Z slot res.bn,dE.filterMap bI.id with
 | (bJ,Xo),is=>
  if(res.bn.all RC.scalar)&&is.isEmpty then some ([],{ val:=EX bJ,rd:=Go.Abs.ids marks })
  else if !(is.all fun i=>!((Go.Abs.ids marks).contains i)) || !decide is.Nodup || !decide ((res.bn.filter RC.mh).length<=2) then none
  else match gP Z h dE res.out with
   | some (o,bw)=>some (o,{ val:=EX bJ,wr:=marks++bw++Xo,rd:=Go.Abs.ids marks++is })
   | none=>none
end
inductive TM where
 | leaf (x:AV)
 | node (h:Nat) (l r:TM)
def TM.get:TM->Nat->AV
 | .leaf x,_=>x
 | .node h l r,i=>if i<h then l.get i else r.get (i-h)
def TM.set:TM->Nat->AV->TM
 | .leaf _,_,x=>.leaf x
 | .node h l r,i,x=>if i<h then .node h (l.set i x) r else .node h l (r.set (i-h) x)
def TM.ok:TM->Nat->Prop
 | .leaf _,n=>n<=1
 | .node h l r,n=>l.ok (Min.min n h)/\r.ok (n-h)
def TM.MK:TM->Nat->List AV->List AV
 | .leaf x,n,acc=>if n=0 then acc else x::acc
 | .node h l r,n,acc=>l.MK (Min.min n h) (r.MK (n-h) acc)
def TM.Rm:Nat->List AV->TM
 | _,[]=>.leaf .aj
 | 0,x::_=>.leaf x
 | k+1,x::l=>.node (2^k) (TM.Rm k ((x::l).take (2^k))) (TM.Rm k ((x::l).drop (2^k)))
theorem TM.AZ:∀(t:TM) (n d i:Nat) (x:AV),t.ok n->d<n->i<n->(t.set d x).get i=if i=d then x else t.get i
 | .leaf y,n,d,i,x,h,hd,hi=>by
  have h:n<=1:=h;have:i=d:=by omega
  rw[if_pos this];rfl
 | .node h l r,n,d,i,x,ho,hd,hi=>by
  obtain⟨h1,h2⟩:=ho;simp only[TM.set]
  by_cases hdh:d<h
  ·rw[if_pos hdh]
   simp only[TM.get]
   by_cases I9:i<h
   ·rw[if_pos I9,if_pos I9,TM.AZ l _ d i x h1 (by omega) (by omega)]
   ·rw[if_neg I9,if_neg I9,if_neg (by omega)]
  ·rw[if_neg hdh]
   simp only[TM.get]
   by_cases I9:i<h
   ·rw[if_pos I9,if_pos I9,if_neg (by omega)]
   ·rw[if_neg I9,if_neg I9,TM.AZ r _ (d-h) (i-h) x h2 (by omega) (by omega)]
    by_cases he:i=d
    ·rw[if_pos (by omega),if_pos he]
    ·rw[if_neg (by omega),if_neg he]
theorem TM.A5:∀(t:TM) (n d:Nat) (x:AV),t.ok n->(t.set d x).ok n
 | .leaf y,n,d,x,h=>h
 | .node h l r,n,d,x,ho=>by
  simp only[TM.set];split
  ·exact⟨TM.A5 l _ d x ho.1,ho.2⟩
  ·exact⟨ho.1,TM.A5 r _ _ x ho.2⟩
theorem TM.su:∀(t:TM) (n:Nat) (acc:List AV),t.ok n->(t.MK n acc).length=n+acc.length/\∀i,(i<n->(t.MK n acc)[i]?=some (t.get i))/\(t.MK n acc)[n+i]?=acc[i]?
 | .leaf x,n,acc,h=>by
  have h:n<=1:=h;simp only[TM.MK];split
  ·rename_i h0;subst h0;refine⟨by simp,fun i=>⟨fun hi=>by omega,by simp⟩⟩
  ·rename_i h0
   have:n=1:=by omega
   subst this;refine⟨by simp;omega,fun i=>⟨fun hi=>?_,?_⟩⟩
   ·have:i=0:=by omega
    subst this;rfl
   ·rw[Nat.add_comm];simp
 | .node h l r,n,acc,ho=>by
  obtain⟨h1,h2⟩:=ho;obtain⟨e1,e2⟩:=TM.su r (n-h) acc h2;obtain⟨e3,e4⟩:=TM.su l (Min.min n h) (r.MK (n-h) acc) h1;simp only[TM.MK];refine⟨by rw[e3,e1];omega,fun i=>⟨fun hi=>?_,?_⟩⟩
  ·simp only[TM.get]
   by_cases I9:i<h
   ·rw[if_pos I9];exact(e4 i).1 (by omega)
   ·rw[if_neg I9]
    have:=(e4 (i-h)).2;rw[show Min.min n h+(i-h)=i by omega]at this;rw[this];exact(e2 (i-h)).1 (by omega)
  ·have:=(e4 (n-h+i)).2
   rw[show Min.min n h+(n-h+i)=n+i by omega]at this;rw[this];exact(e2 i).2
theorem TM.A6:∀(k:Nat) (l:List AV),l.length<=2^k->(TM.Rm k l).ok l.length/\∀i,i<l.length->(TM.Rm k l).get i=l.getD i .aj
 | k,[],h=>by
  cases k<;>exact⟨Nat.zero_le _,fun i hi=>by simp at hi⟩
 | 0,x::l,h=>by
  have h:(x::l).length<=1:=h;have hl:l=[]:=by simpa using h
  subst hl;exact⟨Nat.le_refl 1,fun i hi=>by
   have:i=0:=by simpa using hi
   subst this;rfl⟩
 | k+1,x::l,h=>by
  have hp:2^(k+1)=2^k+2^k:=by rw[Nat.pow_succ];omega
  obtain⟨a1,a2⟩:=TM.A6 k ((x::l).take (2^k)) (by rw[List.length_take];omega);obtain⟨b1,b2⟩:=TM.A6 k ((x::l).drop (2^k)) (by rw[List.length_drop];omega);rw[List.length_take]at a1 a2;rw[List.length_drop]at b1 b2;refine⟨⟨by rw[Nat.min_comm];exact a1,b1⟩,fun i hi=>?_⟩;simp only[TM.Rm,TM.get]
  by_cases MB:i<2^k
  ·rw[if_pos MB,a2 i (by omega)]
   simp only[List.getD_eq_getElem?_getD,List.getElem?_take,if_pos MB]
  ·rw[if_neg MB,b2 (i-2^k) (by omega)]
   simp only[List.getD_eq_getElem?_getD,List.getElem?_drop];rw[show 2^k+(i-2^k)=i by omega]
structure ST where
 n:Nat
 tm:TM
 heap:bM
 lit:List Nat
def ST.get (st:ST):Operand->AV
 | .tmp t=>if t<st.n then st.tm.get t else .aj
 | .const v=>ofConst v
 | .func f=>.c (.t (.v (.func (.func f) #[] #[])))
 | .global _=>.aj
def ST.fe (st:ST):St:=⟨st.tm.MK st.n [],st.heap⟩
def uA (n:Nat):Nat:=if n<=16 then 4 else if n<=64 then 6 else if n<=256 then 8 else if n<=1024 then 10 else n
def ST.kv (st:St):ST:=⟨st.tmps.length,TM.Rm (uA st.tmps.length) st.tmps,st.heap,[]⟩
def ST.ok (st:ST):Prop:=st.tm.ok st.n
def ST.app (st:ST) (o:Oper) (e:bZ):ST:=⟨st.n,match o.dst with|some d=>if d<st.n then st.tm.set d e.val else st.tm|none=>st.tm,dZ st.heap e.wr,st.lit⟩
def ST.ext (st:ST) (n:Nat):ST:=⟨st.n,st.tm,st.heap++List.replicate n none,st.lit⟩
def ST.addLit (st:ST) (b:Bool) (o:Oper):ST:=match o.dst with
 | none=>st
 | some d=>match b with
  | true=>⟨st.n,st.tm,st.heap,d::st.lit⟩
  | false=>match st.lit.contains d with
   | true=>⟨st.n,st.tm,st.heap,st.lit.filter (fun x=>!(x==d))⟩
   | false=>st
def A7 (l:List Nat):Operand->Bool
 | .const _=>true
 | .tmp t=>l.contains t
 | _=>false
def GG (st:ST):Op->Bool
 | .move x=>A7 st.lit x
 | .assign x=>A7 st.lit x
 | .pick c a b=>match A7 st.lit c with
  | true=>match(st.get c).bool? with
   | some true=>A7 st.lit a
   | some false=>A7 st.lit b
   | none=>false
  | false=>false
 | .unOp _ _ x=>A7 st.lit x
 | _=>false
theorem ST.getD (st:ST) (h:st.ok) (t:Nat):st.fe.tmps.getD t .aj=if t<st.n then st.tm.get t else .aj:=by
 obtain⟨h1,h2⟩:=TM.su st.tm st.n [] h;unfold ST.fe;simp only[List.getD_eq_getElem?_getD];split
 ·rename_i ht;rw[(h2 t).1 ht];rfl
 ·rename_i ht
  rw[List.getElem?_eq_none (by rw[h1];simp;omega)];rfl
theorem ST.get_eq (st:ST) (h:st.ok) (x:Operand):st.fe.get x=st.get x:=by
 cases x with
 | tmp t=>exact ST.getD st h t
 | _=>rfl
theorem ST.PA {st:ST} (h:st.ok) (o:Oper) (e:bZ):(st.app o e).ok:=by
 unfold ST.app ST.ok;simp only;split
 ·split
  ·exact TM.A5 _ _ _ _ h
  ·exact h
 ·exact h
theorem oi {l m:List AV} (h:l.length=m.length) (hi:∀i,i<l.length->l[i]?=m[i]?):l=m:=by
 apply List.ext_getElem?;intro i;rcases Nat.lt_or_ge i l.length with h1|h1
 ·exact hi i h1
 ·rw[List.getElem?_eq_none h1,List.getElem?_eq_none (by omega)]
theorem ST.Ki {st:ST} (h:st.ok) (o:Oper) (e:bZ):(st.app o e).fe=st.fe.app o e:=by
 unfold ST.app ST.fe St.app;obtain⟨h1,h2⟩:=TM.su st.tm st.n [] h;simp only[St.mk.injEq,and_true];cases hd:o.dst with
 | none=>rfl
 | some d=>
  simp only
  by_cases Ti:d<st.n
  ·rw[if_pos Ti]
   obtain⟨h3,h4⟩:=TM.su (st.tm.set d e.val) st.n [] (TM.A5 _ _ _ _ h);refine oi (by rw[h3,List.length_set,h1]) fun i hi=>?_
   rw[h3]at hi;simp only[List.length_nil,Nat.add_zero]at hi;rw[(h4 i).1 hi,TM.AZ _ _ _ _ _ h Ti hi,List.getElem?_set,h1]
   by_cases he:i=d
   ·subst he;simp[Ti]
   ·rw[if_neg he,if_neg (Ne.symm he)];exact((h2 i).1 hi).symm
  ·rw[if_neg Ti]
   simp only[List.length_nil,Nat.add_zero]at h1;exact(List.set_eq_of_length_le (by rw[h1];exact Nat.le_of_not_lt Ti)).symm
theorem ST.np (st:ST):st.fe.heap=st.heap:=rfl
theorem vT (n:Nat):n<=2^uA n:=by
 unfold uA;split
 ·omega
 ·split
  ·omega
  ·split
   ·omega
   ·split
    ·omega
    ·exact Nat.le_of_lt Nat.lt_two_pow_self
theorem ST.kx (st:St):(ST.kv st).ok:=(TM.A6 _ _ (vT _)).1
theorem ST.gK (st:St):(ST.kv st).fe=st:=by
 obtain⟨a,b⟩:=TM.A6 (uA st.tmps.length) st.tmps (vT _);obtain⟨h1,h2⟩:=TM.su _ _ [] a;unfold ST.kv ST.fe;cases st with
 | mk tmps heap=>
 simp only[St.mk.injEq,and_true];simp only at h1 h2 b;refine oi (by rw[h1];simp) fun i hi=>?_
 rw[h1]at hi;simp only[List.length_nil,Nat.add_zero]at hi;rw[(h2 i).1 hi,b i hi,List.getD_eq_getElem?_getD,List.getElem?_eq_getElem hi];rfl
section
variable (Z:ZI) (C:dP)
def Tj (ops:List Oper) (x:Operand):Bool:=
 match x with
 | .tmp t=>ops.any fun o=>match o.dst,o.op with
  | some d,.buildSlice _ n _=>d==t&&decide (0<n)
  | _,_=>false
 | _=>false
def A8 (st:ST) (ops:List Oper) (o:Oper):Option Bool:=
 match o.guard with
 | none=>some true
 | some (j,want)=>match(ops[j]?).bind (·.dst) with
  | some d=>AE want (st.get (.tmp d))
  | none=>none
def A9 (A:FuncId->Ask->pc->Prop) (ops:List Oper) (slot:Nat) (o:Oper) (st:ST) (k:bZ->Prop):Prop:=
 match A8 st ops o with
 | none=>False
 | some false=>k qx
 | some true=>
  match o.op with
  | .call { callee:=.value f,args,.. }=>
   match rX (st.get f) (args.toList.map st.get) with
   | none=>False
   | some (rN,bJ)=>
    match C.md rN with
    | .sh _::_=>
     match oT (look st.heap) bJ with
     | none=>False
     | some (ids,s)=>∃s',A rN (.h s) (.h s')/\match vk ids slot (slotsOf C o.op) s' with
      | some e=>k e
      | none=>False
    | ms=>
     match sr Z (look st.heap) ms bJ with
     | none=>False
     | some (ob,as,marks,dE)=>mz ob (∃res,A rN (.a as) (.a res)/\match vR Z (look st.heap) slot marks dE res with
      | some (Q2,e)=>mz Q2 (k e)
      | none=>False)
  | .call { callee:=.builtin .append,args,argTypes }=>
   match args.toList with
   | [s,x]=>
    match Tj ops x with
    | true=>match ku Z C slot st.get (look st.heap) (.call { callee:=.builtin .append,args,argTypes }) with
     | some (ob,e)=>mz ob (k e)
     | none=>False
    | false=>
     match kt Z (look st.heap) (st.get x),EH (st.get s),ku Z C slot st.get (look st.heap) (.call { callee:=.builtin .append,args,argTypes }) with
     | some (o1,new,nF),true,some (ob,e)=>Br (Z.neq (Z.len new) 0) (mz o1 (k { val:=st.get s,rd:=nF })) (match(Kh C argTypes).bind fun te=>Fe Z te slot (look st.heap) (st.get s) o1 new nF with
      | some (oc,c,eg,Th,e2)=>mz oc (Br c (k eg) (mz Th (k e2)))
      | none=>mz ob (k e))
     | _,_,_=>False
   | _=>False
  | op=>match ku Z C slot st.get (look st.heap) op with
   | some (ob,e)=>mz ob (k e)
   | none=>False
def nq (ops:List Oper):List Oper->List Nat->List Nat
 | [],acc=>acc
 | o::os,acc=>match o.guard with
  | some (j,_)=>match(ops[j]?).bind (·.dst) with
   | some d=>match acc.contains d with
    | true=>nq ops os acc
    | false=>nq ops os (d::acc)
   | none=>nq ops os acc
  | none=>nq ops os acc
def sv (gs:List Nat) (lit:Bool) (o:Oper) (e:bZ) (k:Bool->bZ->Prop):Prop:=
 match gs with
 | []=>k lit e
 | g::gs=>match o.dst with
  | none=>k lit e
  | some d=>match(g::gs).contains d with
   | true=>match lit with
    | true=>k true e
    | false=>match e.val.bool? with
     | some b=>Br b (k true { e with val:=dM (.bool true) }) (k true { e with val:=dM (.bool false) })
     | none=>k false e
   | false=>k lit e
def yi (A:FuncId->Ask->pc->Prop) (ops:List Oper) (gs:List Nat):List Oper->Nat->ST->List bZ->(List bZ->ST->Prop)->Prop
 | [],_,st,tr,Q=>Q tr st
 | o::os,slot,st,tr,Q=>A9 Z C A ops slot o st fun e=>sv gs (GG st o.op) o e fun b e=>yi A ops gs os (slot+slotsOf C o.op) ((st.app o e).addLit b o) (tr ++ [e]) Q
def dz (A:FuncId->Ask->pc->Prop) (L:Code->St->(bC->ST->Prop)->Prop):Code->ST->(bC->ST->Prop)->Prop
 | .skip,st,Q=>Q .normal st
 | .ret,st,Q=>Q .ret st
 | .exit id,st,Q=>Q (.exit id) st
 | .seq x y,st,Q=>dz A L x st fun e s=>match e with
  | .normal=>dz A L y s Q
  | .exit id=>Q (.exit id) s
  | .ret=>Q .ret s
 | .region _ ops draw,st,Q=>yi Z C A ops.toList (nq ops.toList ops.toList []) ops.toList st.heap.length (st.ext (bB C ops.toList)) [] fun bd rY=>match draw with
  | false=>Q .normal rY
  | true=>match yg ops.toList bd with
   | true=>Q .normal rY
   | false=>False
 | .cond c x y,st,Q=>match(st.get c).bool? with
  | some b=>match A7 st.lit c with
   | true=>match b with
    | true=>dz A L x st Q
    | false=>dz A L y st Q
   | false=>Br b (dz A L x st Q) (dz A L y st Q)
  | none=>False
 | .block id c,st,Q=>dz A L c st fun e s=>match e with
  | .normal=>Q .normal s
  | .exit Cj=>if Cj=id then Q .normal s else Q (.exit Cj) s
  | .ret=>Q .ret s
 | .loop c,st,Q=>match st.fe with
  | ⟨t,h⟩=>L c ⟨t,h⟩ Q
 | _,_,_=>False
end
def iC:Code->Bool
 | .seq x y=>iC x&&iC y
 | .region _ ops draw=>!draw||C5 ops.toList
 | .cond _ x y=>iC x&&iC y
 | .block _ c=>iC c
 | .loop c=>iC c
 | _=>true
section
variable {P:Program} {C:dP} {h:Hp} {n0:Nat}
theorem yj {x:AV} {o:List Bool} {v:TV} {m:List (Nat×Option aU)} (e:GF ZI.b9 h x=some (o,v,m)) (ho:eY o):vc h x=some (v,m):=by
 unfold GF at e;unfold vc;split at e
 ·split at e
  ·rename_i h1;cases e;simp only[tE h1 ho,Option.map_some]
  ·cases e
 ·split at e
  ·rename_i h1;cases e;simp only[iH h1 ho,Option.map_some]
  ·cases e
 ·cases e
theorem Ba {md:Mode} {x:AV} {o:List Bool} {a:Arg} {m:List (Nat×Option aU)} {b:bI} (e:vO ZI.b9 h md x=some (o,a,m,b)) (ho:eY o):dQ h md x=some (a,m,b):=by
 unfold vO at e;split at e
 ·cases e;rfl
 ·rename_i cY
  split at e
  ·rename_i h1;cases e;rw[tC cY,yj h1 ho];rfl
  ·cases e
 ·split at e
  ·rename_i hb
   cases e;have:=iA ho;simp only[ZI.b9,decide_eq_true_eq]at this;simp only[dQ,hb];rw[if_pos this];rfl
  ·cases e
 ·split at e
  ·rename_i hb
   split at e
   ·rename_i dG
    cases e;have:=iA ho;simp only[ZI.b9,decide_eq_true_eq]at this;simp only[dQ,hb];rw[if_pos ⟨dG,this⟩]
   ·cases e
  ·cases e
 ·cases e;rfl
 ·split at e
  ·rename_i hb
   cases e;have:=iA ho;simp only[ZI.b9,decide_eq_true_eq]at this;simp only[dQ,hb];rw[if_pos this];rfl
  ·cases e
 ·rename_i cY
  split at e
  ·rename_i h1;cases e;rw[vD cY,yj h1 ho];rfl
  ·cases e
 ·split at e
  ·rename_i hb
   split at e
   ·rename_i ht
    cases e;simp only[dQ,hb,ht]
   ·cases e
  ·cases e
 ·cases e
theorem gQ:∀ {ms:List Mode} {xs:List AV} {o:List Bool} {as:List Arg} {m:List (Nat×Option aU)} {bs:List bI},jX ZI.b9 h ms xs=some (o,as,m,bs)->eY o->cD h ms xs=some (as,m,bs)
 | [],[],o,as,m,bs,e,ho=>by cases e;rfl
 | md::ms,x::xs,o,as,m,bs,e,ho=>by
  unfold jX at e;split at e
  ·rename_i h1 h2
   cases e;obtain⟨a,b⟩:=fj ho;simp only[cD,Ba h1 a,gQ h2 b]
  ·cases e
 | [],_::_,o,as,m,bs,e,ho=>by cases e
 | _::_,[],o,as,m,bs,e,ho=>by cases e
theorem xq {ms:List Mode} {xs:List AV} {o:List Bool} {as:List Arg} {m:List (Nat×Option aU)} {bs:List bI} (e:sr ZI.b9 h ms xs=some (o,as,m,bs)) (ho:eY o):eh h ms xs=some (as,m,bs):=by
 unfold sr at e;split at e
 ·cases e
 rename_i o1 as0 ks bs0 h1;split at e
 ·rename_i hg
  cases e;unfold eh;simp only[gQ h1 ho,hg]
 ·rename_i g gs hg
  split at e
  ·rename_i xT h2
   cases e;unfold eh;simp only[gQ h1 ho,hg,h2]
  ·cases e
theorem g9:∀ {bs:List bI} {os:List (Option aU)} {o:List Bool} {w:List (Nat×Option aU)},gP ZI.b9 h bs os=some (o,w)->eY o->dk h bs os=some w
 | [],[],o,w,e,ho=>by cases e;rfl
 | .none::bs,x::os,o,w,e,ho=>by
  simp only[gP]at e;simp only[dk];exact g9 e ho
 | .own b::bs,x::os,o,w,e,ho=>by
  simp only[gP]at e;obtain⟨p,h1,h2⟩:=Option.map_eq_some_iff.1 e;cases h2;simp only[dk,g9 (o:=p.1) (w:=p.2) h1 ho,Option.map_some]
 | .eP b off len::bs,some (.rows sz r false false)::os,o,w,e,ho=>by
  simp only[gP]at e;split at e
  ·rename_i hb
   split at e
   ·rename_i dG
    obtain⟨p,h1,h2⟩:=Option.map_eq_some_iff.1 e;cases h2;have q1:=ho _ (List.mem_cons_self ..);simp only[ZI.b9,decide_eq_true_eq]at q1;simp only[dk,hb];rw[if_pos ⟨dG,q1⟩,g9 (o:=p.1) (w:=p.2) h1 fun c hc=>ho c (List.mem_cons_of_mem _ hc)];rfl
   ·cases e
  ·cases e
 | .ref b::bs,some (.var cs)::os,o,w,e,ho=>by
  simp only[gP]at e;split at e
  ·rename_i hb
   split at e
   ·rename_i dG
    obtain⟨p,h1,h2⟩:=Option.map_eq_some_iff.1 e;cases h2;simp only[dk,hb];rw[if_pos dG,g9 (o:=p.1) (w:=p.2) h1 ho];rfl
   ·cases e
  ·cases e
 | [],_::_,o,w,e,ho=>by cases e
 | .none::_,[],o,w,e,ho=>by cases e
 | .own _::_,[],o,w,e,ho=>by cases e
 | .eP _ _ _::_,[],o,w,e,ho=>by cases e
 | .ref _::_,[],o,w,e,ho=>by cases e
 | .eP _ _ _::_,none::_,o,w,e,ho=>by cases e
 | .ref _::_,none::_,o,w,e,ho=>by cases e
 | .eP _ _ _::_,some (.var _)::_,o,w,e,ho=>by cases e
 | .eP _ _ _::_,some (.map _)::_,o,w,e,ho=>by cases e
 | .eP _ _ _::_,some (.rows _ _ true _)::_,o,w,e,ho=>by cases e
 | .eP _ _ _::_,some (.rows _ _ false true)::_,o,w,e,ho=>by cases e
 | .ref _::_,some (.rows _ _ _ _)::_,o,w,e,ho=>by cases e
 | .ref _::_,some (.map _)::_,o,w,e,ho=>by cases e
theorem mC:∀(slot:Nat) (l:List RC),nn ZI.b9 slot l=dK slot l
 | _,[]=>rfl
 | slot,.val x::rs=>by simp only[nn,dK,mC slot rs]
 | slot,.own sz rows::rs=>by simp only[nn,dK,mC (slot+1) rs];rfl
theorem Bb {slot:Nat} {marks:List (Nat×Option aU)} {dE:List bI} {res:lJ} {o:List Bool} {e:bZ} (he:vR ZI.b9 h slot marks dE res=some (o,e)) (ho:eY o):fU h slot marks dE res=some e:=by
 unfold vR at he;unfold fU;rw[mC]at he;simp only at he ⊢;split at he
 ·rename_i hc;cases he;rw[if_pos hc]
 ·rename_i hc
  rw[if_neg hc];split at he
  ·cases he
  ·rename_i hd
   rw[if_neg hd];split at he
   ·rename_i o1 bw h1
    cases he;simp only[g9 h1 ho]
   ·cases he
theorem Dh {st:ST} (h:st.ok) (ops:List Oper) (o:Oper):A8 st ops o=gO st.fe.tmps ops o:=by
 unfold A8 gO;cases hg:o.guard with
 | none=>rfl
 | some p=>
  obtain⟨j,want⟩:=p;simp only;cases hd:(ops[j]?).bind (·.dst) with
  | none=>rfl
  | some d=>
   simp only;rw[ST.getD st h];rfl
theorem ML {st:ST} (h:st.ok):st.fe.get=st.get:=by funext x;exact ST.get_eq st h x
theorem Fi {ops:List Oper} {slot:Nat} {o:Oper} {st:ST} (dC:st.ok) {k:bZ->Prop} (hk:A9 ZI.b9 C (jV P) ops slot o st k):eU P C ops slot o st.fe k:=by
 unfold A9 at hk;unfold eU;rw[Dh dC]at hk;rw[ML dC,ST.np];cases hw:gO st.fe.tmps ops o with
 | none=>simp only[hw]at hk
 | some b=>
 cases b with
 | false=>simp only[hw]at hk ⊢;exact hk
 | true=>
 simp only[hw]at hk ⊢;split at hk
 ·rename_i f args argTypes dX
  simp only[dX];split at hk
  ·exact hk.elim
  ·rename_i rN bJ hc
   simp only[hc];split at hk
   ·rename_i n0 Vo LV
    simp only[LV];split at hk
    ·exact hk.elim
    ·rename_i ids s hp
     simp only[hp];obtain⟨s',h2,h3⟩:=hk;rw[dX]at h3;exact⟨s',h2,h3⟩
   ·rename_i J2
    split at hk
    ·exact hk.elim
    ·rename_i ob as marks dE hp
     obtain⟨h1,res,h2,h3⟩:=LW hk;simp only[xq hp h1];refine⟨res,h2,?_⟩;split at h3
     ·rename_i Q2 e he
      obtain⟨h4,h5⟩:=LW h3;simp only[Bb he h4];exact h5
     ·exact h3.elim
 ·rename_i args argTypes dX
  simp only[dX];split at hk
  ·rename_i s x dx
   split at hk
   ·split at hk
    ·rename_i ob e he
     obtain⟨h4,h5⟩:=LW hk;simp only[mB he h4];exact h5
    ·exact hk.elim
   ·split at hk
    ·rename_i o1 new nF ob e hr hs he
     by_cases hz:ZI.b9.neq (ZI.b9.len new) 0=true
     ·obtain⟨h4,h5⟩:=LW (hk.t hz)
      have EL:=NZ hr h4;have hz':new.length=0:=by simpa[ZI.b9]using hz
      have Vr:evalOp C slot st.get (look st.heap) (.call { callee:=.builtin .append,args,argTypes })=some { val:=st.get s,rd:=nF }:=by
       simp only[ku,dx]at he;simp only[evalOp,dx];cases ht:argTypes[0]? with
       | none=>rw[ht]at he;simp at he
       | some t=>
       simp only[ht]at he ⊢;split at he
       ·rename_i ti cB
        split at he
        ·rename_i el hk
         split at he
         ·rename_i te t1 de xg
          split at he
          ·rename_i L9 AD
           split at he
           ·rename_i e1 Em
            split at he
            ·cases he
            ·rename_i hz
             simp only[cB,hk,de,xg,AD,Em];rw[if_neg hz];simp only[bY,EL];rw[if_pos hz',if_pos hs]
           ·cases he
          ·cases he
         ·cases he
        ·cases he
       ·cases he
      simp only[Vr];exact h5
     ·have En:=hk.f (by simpa using hz)
      split at En
      ·rename_i oc c eg Th e2 hap
       obtain⟨te,xg,Sf⟩:=Option.bind_eq_some_iff.1 hap;obtain⟨h4,h5⟩:=LW En;obtain⟨g1,g2⟩:=Fg (x:=st.get x) Sf hr h4;have Vr:∀e',bY te slot (look st.heap) (st.get s) (st.get x)=some e'->evalOp C slot st.get (look st.heap) (.call { callee:=.builtin .append,args,argTypes })=some e':=by
        intro e' hh;simp only[ku,dx]at he;simp only[evalOp,dx];simp only[Kh]at xg;cases ht:argTypes[0]? with
        | none=>rw[ht]at he;simp at he
        | some t=>
        simp only[ht]at he xg ⊢;split at he
        ·rename_i ti cB
         simp only[cB]at xg ⊢;split at he
         ·rename_i el hk
          simp only[hk]at xg ⊢;split at he
          ·rename_i te2 t1 de O7
           have:te2=te:=Option.some.inj (de.symm.trans xg);subst this;split at he
           ·rename_i L9 AD
            split at he
            ·rename_i e1 Em
             split at he
             ·cases he
             ·rename_i hz
              simp only[de,O7,AD,Em];rw[if_neg hz];exact hh
            ·cases he
           ·cases he
          ·cases he
         ·cases he
        ·cases he
       cases c with
       | true=>simp only[Vr _ (g1 rfl)];exact h5.t rfl
       | false=>
        obtain⟨h6,h7⟩:=LW (h5.f rfl);simp only[Vr _ (g2 rfl h6)];exact h7
      ·obtain⟨h4,h5⟩:=LW En
       simp only[mB he h4];exact h5
    ·exact hk.elim
  ·exact hk.elim
 ·rename_i N0 tH
  split at hk
  ·rename_i ob e he
   obtain⟨h4,h5⟩:=LW hk;have OW:=mB he h4;split
   ·rename_i dX
    exact absurd dX (N0 _ _ _)
   ·simp only[OW];exact h5
  ·exact hk.elim
theorem Fj {gs:List Nat} {lit:Bool} {o:Oper} {e:bZ} {k:Bool->bZ->Prop} (h:sv gs lit o e k):∃b,k b e:=by
 have key:∀b,e.val.bool?=some b->Br b (k true { e with val:=dM (.bool true) }) (k true { e with val:=dM (.bool false) })->k true e:=by
  intro b hb h;have hv:e.val=dM (.bool b):=by
   cases hv:e.val with
   | c x=>cases x with
    | t t=>cases t with
     | v x=>cases x<;>simp[hv,AV.bool?]at hb;subst hb;rfl
     | aa=>simp[hv,AV.bool?]at hb
    | _=>simp[hv,AV.bool?]at hb
   | _=>simp[hv,AV.bool?]at hb
  have he:e={ e with val:=dM (.bool b) }:=by rw[<-hv]
  rw[he];cases b with
  | true=>exact h.t rfl
  | false=>exact h.f rfl
 unfold sv at h;split at h
 ·exact⟨_,h⟩
 ·split at h
  ·exact⟨_,h⟩
  ·split at h
   ·split at h
    ·exact⟨_,h⟩
    ·split at h
     ·rename_i b hb;exact⟨_,key b hb h⟩
     ·exact⟨_,h⟩
   ·exact⟨_,h⟩
theorem ST.Di (st:ST) (b:Bool) (o:Oper):(st.addLit b o).fe=st.fe:=by
 unfold ST.addLit;split
 ·rfl
 ·split
  ·rfl
  ·split<;>rfl
theorem ST.HI {st:ST} (h:st.ok) (b:Bool) (o:Oper):(st.addLit b o).ok:=by
 unfold ST.addLit;split
 ·exact h
 ·split
  ·exact h
  ·split<;>exact h
def Kj (Q:bC->ST->Prop):bC->St->Prop:=fun e s=>∃s',s'.ok/\s'.fe=s/\Q e s'
theorem yk {ops:List Oper} {gs:List Nat}:∀(os:List Oper) (slot:Nat) (st:ST) (tr:List bZ) {k:List bZ->ST->Prop},st.ok->yi ZI.b9 C (jV P) ops gs os slot st tr k->vw P C ops os slot st.fe tr fun t s=>∃s',s'.ok/\s'.fe=s/\k t s'
 | [],slot,st,tr,k,dC,hk=>⟨st,dC,rfl,hk⟩
 | o::os,slot,st,tr,k,dC,hk=>vI (Fi dC hk) fun e he=>by
  obtain⟨b,hb⟩:=Fj he;rw[<-ST.Ki dC,<-ST.Di _ b o];exact yk os _ _ _ (ST.HI (ST.PA dC o e) b o) hb
theorem N2:∀(c:Code) (st:St) {Q Q':bC->St->Prop},eV P C n0 c st Q->(∀e s,Q e s->Q' e s)->eV P C n0 c st Q':=by
 intro c
 induction c with
 | skip=>intro st Q Q' h hq;exact hq _ _ h
 | ret=>intro st Q Q' h hq;exact hq _ _ h
 | exit id=>intro st Q Q' h hq;exact hq _ _ h
 | seq x y C8 C9=>
  intro st Q Q' h hq;refine C8 st h fun e s hs=>?_
  cases e with
  | normal=>exact C9 s hs hq
  | exit id=>exact hq _ _ hs
  | ret=>exact hq _ _ hs
 | region id ops draw=>
  intro st Q Q' h hq;refine nj _ _ _ _ h fun t s hs=>?_
  cases draw with
  | false=>exact hq _ _ hs
  | true=>
   simp only at hs ⊢;split at hs
   ·exact hq _ _ hs
   ·exact hs.elim
 | cond c x y C8 C9=>
  intro st Q Q' h hq;simp only[eV]at h ⊢;split at h
  ·exact C8 st h hq
  ·exact C9 st h hq
  ·exact h.elim
 | block id c ih=>
  intro st Q Q' h hq;refine ih st h fun e s hs=>?_
  cases e with
  | normal=>exact hq _ _ hs
  | exit Cj=>
   simp only at hs ⊢;split at hs
   ·rename_i he;rw[if_pos he];exact hq _ _ hs
   ·rename_i he;rw[if_neg he];exact hq _ _ hs
  | ret=>exact hq _ _ hs
 | loop c ih=>intro st Q Q' h hq;exact dy.mono h hq
 | _=>intros;rename_i h _;exact False.elim h
def Dj (P:Program) (n0:Nat) (c:Code) (st:St) (Q:bC->ST->Prop):Prop:=iC c=true->qL P n0 c st (Kj Q)
theorem fw:∀(c:Code) (st:ST) {Q:bC->ST->Prop},st.ok->iC c=true->dz ZI.b9 C (jV P) (Dj P n0) c st Q->eV P C n0 c st.fe (Kj Q):=by
 intro c
 induction c with
 | skip=>intro st Q dC hT h;exact⟨st,dC,rfl,h⟩
 | ret=>intro st Q dC hT h;exact⟨st,dC,rfl,h⟩
 | exit id=>intro st Q dC hT h;exact⟨st,dC,rfl,h⟩
 | seq x y C8 C9=>
  intro st Q dC hT h;simp only[iC,Bool.and_eq_true]at hT;refine N2 x _ (C8 st dC hT.1 h) fun e s hs=>?_
  obtain⟨s',h1,rfl,h2⟩:=hs;cases e with
  | normal=>exact C9 s' h1 hT.2 h2
  | exit id=>exact⟨s',h1,rfl,h2⟩
  | ret=>exact⟨s',h1,rfl,h2⟩
 | region id ops draw=>
  intro st Q dC hT h;refine nj _ _ _ _ (yk _ _ _ _ (show(st.ext _).ok from dC) h) fun t s hs=>?_
  obtain⟨s',h1,rfl,hs⟩:=hs;cases draw with
  | false=>exact⟨s',h1,rfl,hs⟩
  | true=>
   simp only[iC,Bool.not_true,Bool.false_or]at hT;simp only at hs ⊢;split at hs
   ·rename_i hd;rw[hT,hd];exact⟨s',h1,rfl,hs⟩
   ·exact hs.elim
 | cond c x y C8 C9=>
  intro st Q dC hT h;simp only[iC,Bool.and_eq_true]at hT;simp only[dz]at h;simp only[eV];rw[ST.get_eq st dC];split at h
  ·rename_i b hb
   rw[hb];split at h
   ·cases b with
    | true=>exact C8 st dC hT.1 h
    | false=>exact C9 st dC hT.2 h
   ·cases b with
    | true=>exact C8 st dC hT.1 (h.t rfl)
    | false=>exact C9 st dC hT.2 (h.f rfl)
  ·exact h.elim
 | block id c ih=>
  intro st Q dC hT h;refine N2 c _ (ih st dC hT h) fun e s hs=>?_
  obtain⟨s',h1,rfl,hs⟩:=hs;cases e with
  | normal=>exact⟨s',h1,rfl,hs⟩
  | exit Cj=>
   simp only at hs ⊢;split at hs
   ·rename_i he;rw[if_pos he];exact⟨s',h1,rfl,hs⟩
   ·rename_i he;rw[if_neg he];exact⟨s',h1,rfl,hs⟩
  | ret=>exact⟨s',h1,rfl,hs⟩
 | loop c ih=>
  intro st Q dC hT h;exact h hT
 | _=>intros;rename_i h;exact False.elim h
end
inductive ab:Tree->Tree->Prop where
 | v (x:Value):ab (.v x) (.v x)
 | aa (cp El:Bool) (rows dh:Rows) (f:Nat->Nat->Tree):(El=true->cp=true)->rows.length=dh.length->(∀(n:Nat),(∀r∈rows,r.length=n)->∀r∈dh,r.length=n) ->
   (∀i j t',eJ dh i j=some t'->eJ rows i j=some (f i j))->(∀i j t',eJ dh i j=some t'->ab (f i j) t')->ab (.aa cp rows) (.aa El dh)
theorem ab.flag {cp El:Bool} (rows:Rows) (xe:El=true->cp=true) (hr:∀i j t,eJ rows i j=some t->ab t t):ab (.aa cp rows) (.aa El rows):=
 .aa cp El rows rows (fun i j=>(eJ rows i j).getD (.v undef)) xe rfl (fun n h=>h) (fun i j t ht=>by rw[ht];rfl) fun i j t ht=>by rw[ht];exact hr i j t ht
theorem ab.rfl':∀(n:Nat) (t:Tree),SizeOf.sizeOf t<n->ab t t
 | 0,t,h=>by omega
 | n+1,.v x,h=>.v x
 | n+1,.aa cp rows,h=>.flag rows (fun x=>x) fun i j t ht=>by
  unfold eJ at ht;obtain⟨r,h1,h2⟩:=Option.bind_eq_some_iff.1 ht;have a:=List.sizeOf_lt_of_mem (List.mem_of_getElem? h1);have b:=List.sizeOf_lt_of_mem (List.mem_of_getElem? h2);have:=Tree.aa.sizeOf_spec cp rows;exact ab.rfl' n t (by omega)
theorem ab.refl (t:Tree):ab t t:=ab.rfl' _ t (Nat.lt_succ_self _)
theorem ab.drop (cp:Bool) (rows:Rows):ab (.aa cp rows) (.aa false rows):=.flag rows (fun h=>by cases h) fun _ _ t _=>.refl t
theorem dF.Fk {S:Place} {w:World} {t t':Tree} {v:Value} (hl:ab t t'):dF S w t v->dF S w t' v:=by
 induction hl generalizing v with
 | v x=>intro h;exact h
 | aa cp El rows dh f h1 h2 Gp h3 _ ih=>
  intro h;cases h with
  | aa _ _ base cb co af cap val q1 q2 q3 q4 q5 q6 q7 q8 q9=>
   rw[h2];refine .aa El dh base cb co af cap val (by omega) q2 (by omega) (fun hc=>by rw[<-h2];exact q4 (h1 hc)) (fun hn=>q5 fun h0=>hn ?_) q6 (Gp _ q7) (fun i j t' ht=>q8 i j _ (h3 i j t' ht)) fun i j t' ht=>ih i j t' ht (q9 i j _ (h3 i j t' ht))
   rw[h0]at h2;exact List.length_eq_zero_iff.1 h2.symm
def jY:List Tree->List Tree->Prop
 | [],[]=>True
 | x::xs,y::ys=>ab x y/\jY xs ys
 | _,_=>False
theorem jY.get:∀ {l l':List Tree},jY l l'->l.length=l'.length/\∀(i:Nat) (t':Tree),l'[i]?=some t'->∃t,l[i]?=some t/\ab t t'
 | [],[],_=>⟨rfl,by simp⟩
 | x::xs,y::ys,h=>by
  obtain⟨h1,h2⟩:=h;obtain⟨h3,h4⟩:=jY.get h2;refine⟨by simp[h3],fun i t' hi=>?_⟩;cases i with
  | zero=>simp at hi;subst hi;exact⟨x,rfl,h1⟩
  | succ i=>obtain⟨t,q1,q2⟩:=h4 i t' (by simpa using hi);exact⟨t,by simpa using q1,q2⟩
 | [],_::_,h=>h.elim
 | _::_,[],h=>h.elim
theorem jY.refl:∀(l:List Tree),jY l l
 | []=>trivial
 | x::xs=>⟨.refl x,jY.refl xs⟩
def iI:TV->TV->Prop
 | .c t,.c t'=>ab t t'
 | .agg l,.agg l'=>jY l l'
 | _,_=>False
theorem iI.refl:∀(x:TV),iI x x
 | .c t=>ab.refl t
 | .agg l=>jY.refl l
theorem iI.rep {β:Nat->Option bS} {S:Place} {w:World}:∀ {x y:TV} {v:Value},iI x y->aY β S w x.av v->aY β S w y.av v
 | .c t,.c t',v,h,hv=>by
  cases hv with|c hv=>
  cases hv with|t hv=>
  exact .c (.t (hv.Fk h))
 | .agg l,.agg l',v,h,hv=>by
  obtain⟨h1,h2⟩:=jY.get h;cases hv with|agg vs q1 q2=>
  refine .agg vs (by simpa[h1]using q1) fun i c hi=>?_
  rw[List.getElem?_map]at hi;obtain⟨t',e1,rfl⟩:=Option.map_eq_some_iff.1 hi;obtain⟨t,e2,e3⟩:=h2 i t' e1;obtain⟨u,e4,e5⟩:=q2 i (.t t) (by rw[List.getElem?_map,e2];rfl);cases e5 with|t e5=>
  exact⟨u,e4,.t (e5.Fk e3)⟩
 | .c _,.agg _,v,h,hv=>h.elim
 | .agg _,.c _,v,h,hv=>h.elim
def GH:Arg->Arg->Prop
 | .val x,.val y=>iI x y
 | a,b=>a=b
theorem GH.aR:∀ {a b:Arg},GH a b->a.aR=b.aR
 | .val x,.val y,_=>rfl
 | .val x,.eP _ _,h=>by cases h
 | .val x,.own _ _,h=>by cases h
 | .val x,.ref _,h=>by cases h
 | .eP _ _,b,h=>by cases h;rfl
 | .own _ _,b,h=>by cases h;rfl
 | .ref _,b,h=>by cases h;rfl
 | .val x,.dj _ _,h=>by cases h
 | .val x,.gh _,h=>by cases h
 | .dj _ _,b,h=>by cases h;rfl
 | .gh _,b,h=>by cases h;rfl
def dO:List Arg->List Arg->Prop
 | [],[]=>True
 | x::xs,y::ys=>GH x y/\dO xs ys
 | _,_=>False
theorem dO.get:∀ {l l':List Arg},dO l l'->l.length=l'.length/\∀(i:Nat) (t':Arg),l'[i]?=some t'->∃t,l[i]?=some t/\GH t t'
 | [],[],_=>⟨rfl,by simp⟩
 | x::xs,y::ys,h=>by
  obtain⟨h1,h2⟩:=h;obtain⟨h3,h4⟩:=dO.get h2;refine⟨by simp[h3],fun i t' hi=>?_⟩;cases i with
  | zero=>simp at hi;subst hi;exact⟨x,rfl,h1⟩
  | succ i=>obtain⟨t,q1,q2⟩:=h4 i t' (by simpa using hi);exact⟨t,by simpa using q1,q2⟩
 | [],_::_,h=>h.elim
 | _::_,[],h=>h.elim
theorem dO.aR {l l':List Arg} (h:dO l l') (i:Nat):(l[i]?).bind Arg.aR=(l'[i]?).bind Arg.aR:=by
 obtain⟨h1,h2⟩:=h.get;cases hi:l'[i]? with
 | none=>rw[List.getElem?_eq_none (by rw[h1];exact List.getElem?_eq_none_iff.1 hi)]
 | some t'=>
  obtain⟨t,e1,e2⟩:=h2 i t' hi;rw[e1];exact e2.aR
theorem dO.Hv {l l':List Arg} (h:dO l l') (Rs:Nat->bS):mg l Rs=mg l' Rs:=by
 have key:∀(a b:List Arg),(∀i:Nat,(a[i]?).bind Arg.aR=(b[i]?).bind Arg.aR)->∀c o,mg a Rs c o->mg b Rs c o:=by
  intro a b Ei c o ⟨i,arg,aR,h1,h2,h3⟩;have:(b[i]?).bind Arg.aR=some aR:=by rw[<-Ei i,h1];exact h2
  obtain⟨Xp,q1,q2⟩:=Option.bind_eq_some_iff.1 this;exact⟨i,Xp,aR,q1,q2,h3⟩
 funext c o;exact propext ⟨key l l' h.aR c o,key l' l (fun i=>(h.aR i).symm) c o⟩
theorem dO.refl:∀(l:List Arg),dO l l
 | []=>trivial
 | .val x::xs=>⟨iI.refl x,dO.refl xs⟩
 | .eP _ _::xs=>⟨rfl,dO.refl xs⟩
 | .own _ _::xs=>⟨rfl,dO.refl xs⟩
 | .ref _::xs=>⟨rfl,dO.refl xs⟩
 | .dj _ _::xs=>⟨rfl,dO.refl xs⟩
 | .gh _::xs=>⟨rfl,dO.refl xs⟩
theorem dO.nv:∀ {l l':List Arg},dO l l'->jS l=jS l'
 | [],[],_=>rfl
 | x::xs,y::ys,h=>by
  obtain⟨h1,h2⟩:=h;have ih:=dO.nv h2;cases x with
  | val x=>
   cases y with
   | val y=>simp[jS,ih]
   | _=>cases h1
  | gh ts=>cases h1;rfl
  | _=>cases h1;simp[jS,ih]
 | [],_::_,h=>h.elim
 | _::_,[],h=>h.elim
theorem dO.βA {l l':List Arg} (h:dO l l') (Rs:Nat->bS):Abs.βA l Rs=Abs.βA l' Rs:=by
 funext i;unfold Abs.βA;rw[h.aR i]
def MM:RC->RC->Prop
 | .val x,.val y=>iI x y
 | a,b=>a=b
def oj:List RC->List RC->Prop
 | [],[]=>True
 | x::xs,y::ys=>MM x y/\oj xs ys
 | _,_=>False
theorem oj.get:∀ {l l':List RC},oj l l'->l.length=l'.length/\∀(i:Nat) (t':RC),l'[i]?=some t'->∃t,l[i]?=some t/\MM t t'
 | [],[],_=>⟨rfl,by simp⟩
 | x::xs,y::ys,h=>by
  obtain⟨h1,h2⟩:=h;obtain⟨h3,h4⟩:=oj.get h2;refine⟨by simp[h3],fun i t' hi=>?_⟩;cases i with
  | zero=>simp at hi;subst hi;exact⟨x,rfl,h1⟩
  | succ i=>obtain⟨t,q1,q2⟩:=h4 i t' (by simpa using hi);exact⟨t,by simpa using q1,q2⟩
 | [],_::_,h=>h.elim
 | _::_,[],h=>h.elim
theorem oj.refl:∀(l:List RC),oj l l
 | []=>trivial
 | .val x::xs=>⟨iI.refl x,oj.refl xs⟩
 | .own _ _::xs=>⟨rfl,oj.refl xs⟩
def aS (r r':lJ):Prop:=oj r.bn r'.bn/\r.out=r'.out
theorem aS.refl (r:lJ):aS r r:=⟨oj.refl _,rfl⟩
theorem MM.own {x:RC} {sz:Nat} {rows:Rows} (h:MM x (.own sz rows)):x=.own sz rows:=by
 cases x with
 | val=>cases h
 | own=>exact h
theorem fh.Fk {args:List Arg} {res HJ:lJ} {S:Place} {w w':World} {Rs:Nat->bS} {v:Value} (hr:aS res HJ) (hq:fh args res S w Rs v w'):fh args HJ S w Rs v w':=by
 obtain⟨S',Rr,vs,q1,q2,q3,q4,q5,q6,q7,q8,q9⟩:=hq.p;obtain⟨rl,rg⟩:=hr.1.get;have AI:∀(k sz:Nat) (rows:Rows),HJ.bn[k]?=some (.own sz rows)->res.bn[k]?=some (.own sz rows):=by
  intro k sz rows hk;obtain⟨t,e1,e2⟩:=rg k _ hk;rw[e1,e2.own]
 refine⟨S',Rr,vs,by rw[q1,rl],q2,q3,q4,q5,fun k r hk=>?_,fun k sz rows hk=>q7 k sz rows (AI _ _ _ hk),fun k l sz ke rows dh cY hk hl=>q8 k l sz ke rows dh cY (AI _ _ _ hk) (AI _ _ _ hl),fun i aR hi=>?_⟩
 ·obtain⟨t,e1,e2⟩:=rg k r hk
  obtain⟨u,e3,e4⟩:=q6 k t e1;refine⟨u,e3,?_⟩;cases r with
  | own sz rows=>rw[e2.own]at e4;exact e4
  | val y=>
   cases t with
   | own=>cases e2
   | val x=>exact iI.rep e2 e4
 ·obtain⟨arg,b0,e1,e2,e3,e4,e5,e6⟩:=q9 i aR (by rw[hr.2];exact hi)
  exact⟨arg,b0,e1,e2,e3,e4,e5,fun k sz rows hk=>e6 k sz rows (AI _ _ _ hk)⟩
theorem aA.Fk {P:Program} {f:FuncId} {args GI:List Arg} {res HJ:lJ} (ha:dO args GI) (hr:aS res HJ) (h:aA P f GI res):aA P f args HJ:=by
 refine⟨h.1,fun S w bn Rs hp=>?_⟩;obtain⟨al,ag⟩:=ha.get;have hex:∀(i:Nat) (arg:Arg) (aR:aU),GI[i]?=some arg->arg.aR=some aR->∃Tk,args[i]?=some Tk/\Tk.aR=some aR:=by
  intro i arg aR h1 h2;obtain⟨t,e1,e2⟩:=ag i arg h1;exact⟨t,e1,by rw[e2.aR];exact h2⟩
 have hp':ng GI S w bn Rs:=by
  refine⟨by rw[hp.len,al],fun i arg hi=>?_,hp.rH,fun i arg aR h1 h2=>?_,fun i j x y b b' cY h1 h2 h3 h4=>?_,fun i f a8 v hi hv=>?_⟩
  ·obtain⟨t,e1,e2⟩:=ag i arg hi
   obtain⟨v,e3,e4⟩:=hp.ok i t e1;refine⟨v,e3,?_⟩;cases t with
   | val x=>
    cases arg with
    | val y=>exact iI.rep e2 e4
    | _=>cases e2
   | _=>cases e2;exact e4
  ·obtain⟨a0,e1,e2⟩:=hex i arg aR h1 h2
   exact hp.ext i a0 aR e1 e2
  ·obtain⟨a0,e1,e2⟩:=hex i x b h1 h3
   obtain⟨a1,e3,e4⟩:=hex j y b' h2 h4;exact hp.kX i j a0 a1 b b' cY e1 e3 e2 e4
  ·obtain⟨t,e1,e2⟩:=ag i _ hi
   rw[<-ha.βA Rs];cases t with
   | dj f' aaS=>cases e2;exact hp.dj i _ _ v e1 hv
   | _=>cases e2
 rw[ha.nv];refine(h.2 S w bn Rs hp').mono ?_
 rintro e w' ⟨v,rfl,hq⟩
 refine⟨v,rfl,?_⟩;have Vs:fh args res S w Rs v w':=by
  obtain⟨S',Rr,vs,q1,q2,q3,q4,q5,q6,q7,q8,q9⟩:=hq.p;rw[<-ha.Hv Rs]at q3 q5 q7;refine⟨S',Rr,vs,q1,q2,q3,q4,q5,q6,q7,q8,fun i aR hi=>?_⟩;obtain⟨arg,b0,e1,e2,e3⟩:=q9 i aR hi;obtain⟨a0,e7,e8⟩:=hex i arg b0 e1 e2;exact⟨a0,b0,e7,e8,e3⟩
 exact Vs.Fk hr
theorem aA.Kk {P:Program} {C:dP} (hC:bt P C) {f:FuncId} {fn:Func} {c:Code} {args:List Arg} {res:lJ} {om:List Mode} (iN:P.funcs[f]?=some fn) (ez:(fn.name == "runtime.NumGoroutine")=false) (dn:fn.body=some c)
  (cL:dy P args.length c (fm args fn.ntmps) fun e s=>(e=.normal∨e=.ret)/\∃r,aS r res/\finish C s args fn.results.toList om=some r):aA P f args res:=by
 refine⟨⟨fn,iN,by rw[dn];rfl,ez⟩,fun S w bn Rs hp=>(og hC (R:=fun r=>aS r res) (om:=om) iN dn cL S w bn Rs hp).mono ?_⟩
 rintro e w' ⟨v,r,h1,h2,h3⟩
 exact⟨v,h1,h3.Fk h2⟩
def W (k:IntKind) (l:List Int):Rows:=l.map fun x=>[.v (.int k x)]
structure Std (P:Program) (n0:Nat) (zD:IntKind->Int->Int) (zE:Int->Int->Int) (zG:Int->Int->Int) (zH:Int->Int->Int) (zI:Int->Int->Int) (zJ:Int->Int->Int) (zK:IntKind->Int->Int->Int) (zL:IntKind->Int->Int->Int) (zM:IntKind->Int->Int->Int) (zN:IntKind->Int->Int->Int) (zO:IntKind->Int->Int->Int) (zR:IntKind->Int->Int->Int) (zS:Int->Int->Bool) (zT:Int->Int->Bool) (zU:Int->Int->Bool) (zV:Int->Int->Bool) (zX:Bool->Bool) (zY:Bool->Bool->Bool) (zZ:Bool->Bool->Bool) (zg:Int->Int->Int) (zh:Int->Int->Int) (zj:Int->Nat) (zu:Int->Nat->Bool) (zy:Nat->Int) (zz:Nat->Int->Nat) (aK:Nat->Nat->Bool) (ah:Nat->Nat->Nat) (aI:Int->Int->Nat) (aH:Int->Int->Nat->Bool) (ak:Nat->Nat->Nat->Bool) (aq:Int->Int->Nat->Bool) (ae:Rows->Nat) (aE:Rows->Nat->Option (List Tree)) (aB:Rows->Nat->List Tree->Rows) (aG:IntKind->Rows->Nat->Bool) (ao:Rows->Nat->Int) (az:IntKind->Rows->Nat->Int->Rows) (aJ:Nat->Nat->Rows->Bool) (an:Rows->Nat->Nat->Rows) (aO:Rows->Nat->Rows->Rows) (au:Rows->Nat->Rows->Rows) (aP:Nat->List Tree->Rows) (ai:Nat->Rows->Bool) (aM:List Bool->Bool) (aN:List (Value×Tree)->Value->Bool) (ay:List (Value×Tree)->Value->Bool) (aw:List (Value×Tree)->Value->Tree->List (Value×Tree)) (aL:Rows->Option ByteArray) (ar:List (Value×Tree)->Value->Option (Option Tree)) (zW:IntKind->List Int->Rows) (bc:(α:Type)->(Unit->α)->α) (A:FuncId->Ask->pc->Prop) (L:Code->St->(bC->ST->Prop)->Prop):Prop where
 wrap:∀(a:IntKind) (b:Int),zD a b=a.wrap b
 add:∀(a:Int) (b:Int),zE a b=a+b
 sub:∀(a:Int) (b:Int),zG a b=a-b
 mul:∀(a:Int) (b:Int),zH a b=a*b
 quo:∀(a:Int) (b:Int),zI a b=a.tdiv b
 rem:∀(a:Int) (b:Int),zJ a b=a.tmod b
 shl:∀(a:IntKind) (b:Int) (c:Int),zK a b c=a.wrap (b*2^(Min.min c.toNat a.bits))
 shr:∀(a:IntKind) (b:Int) (c:Int),zL a b c=b.fdiv (2^(Min.min c.toNat a.bits))
 bP:∀(a:IntKind) (b:Int) (c:Int),zM a b c=a.wrap ((BitVec.ofInt a.bits b &&& BitVec.ofInt a.bits c).toNat)
 eP:∀(a:IntKind) (b:Int) (c:Int),zN a b c=a.wrap ((BitVec.ofInt a.bits b ||| BitVec.ofInt a.bits c).toNat)
 Kf:∀(a:IntKind) (b:Int) (c:Int),zO a b c=a.wrap ((BitVec.ofInt a.bits b ^^^ BitVec.ofInt a.bits c).toNat)
 Db:∀(a:IntKind) (b:Int) (c:Int),zR a b c=a.wrap ((BitVec.ofInt a.bits b &&& ~~~ BitVec.ofInt a.bits c).toNat)
 eq:∀(a:Int) (b:Int),zS a b=decide (a=b)
 ne:∀(a:Int) (b:Int),zT a b=decide (a≠b)
 lt:∀(a:Int) (b:Int),zU a b=decide (a<b)
 le:∀(a:Int) (b:Int),zV a b=decide (a<=b)
 not:∀(a:Bool),zX a=!a
 beq:∀(a:Bool) (b:Bool),zY a b=(a==b)
 bne:∀(a:Bool) (b:Bool),zZ a b=!(a==b)
 max:∀(a:Int) (b:Int),zg a b=if b>a then b else a
 min:∀(a:Int) (b:Int),zh a b=if b<a then b else a
 nat:∀(a:Int),zj a=a.toNat
 xo:∀(a:Int) (b:Nat),zu a b=decide (0<=a/\a<b)
 aW:∀(a:Nat),zy a=(a:Int)
 idx:∀(a:Nat) (b:Int),zz a b=a+b.toNat
 neq:∀(a:Nat) (b:Nat),aK a b=decide (a=b)
 fc:∀(a:Nat) (b:Nat),ah a b=a+b
 HF:∀(a:Int) (b:Int),aI a b=a.toNat-b.toNat
 cut:∀(a:Int) (b:Int) (c:Nat),aH a b c=decide (0<=a/\a<=b/\b<=c)
 room:∀(a:Nat) (b:Nat) (c:Nat),ak a b c=decide ((a+b)*c<=aF)
 my:∀(a:Int) (b:Int) (c:Nat),aq a b c=decide (0<=a/\a<=b/\b*c<=aF)
 len:∀(a:Rows),ae a=a.length
 nth:∀(a:Rows) (b:Nat),aE a b=a[b]?
 Dc:∀(a:Rows) (b:Nat) (c:List Tree),aB a b c=a.set b c
 gJ:∀(a:IntKind) (b:Rows) (c:Nat),aG a b c=ZI.b9.gJ a b c
 dL:∀(a:Rows) (b:Nat),ao a b=ZI.b9.dL a b
 nK:∀(a:IntKind) (b:Rows) (c:Nat) (d:Int),az a b c d=b.set c [.v (.int a d)]
 fit:∀(a:Nat) (b:Nat) (c:Rows),aJ a b c=decide (a+b<=c.length)
 part:∀(a:Rows) (b:Nat) (c:Nat),an a b c=(a.drop b).take c
 ext:∀(a:Rows) (b:Nat) (c:Rows),aO a b c=a.drop b++c
 AU:∀(a:Rows) (b:Nat) (c:Rows),au a b c=bG a b c
 rep:∀(a:Nat) (b:List Tree),aP a b=List.replicate a b
 wide:∀(a:Nat) (b:Rows),ai a b=b.all fun r=>r.length==a
 all:∀(a:List Bool),aM a=a.all id
 MI:∀(a:List (Value×Tree)) (b:Value),aN a b=ZI.b9.MI a b
 Dd:∀(a:List (Value×Tree)) (b:Value),ay a b=ZI.b9.Dd a b
 HG:∀(a:List (Value×Tree)) (b:Value) (c:Tree),aw a b c=(fq b c a).getD a
 str:∀(a:Rows),aL a=ZI.b9.str a
 find:∀(a:List (Value×Tree)) (b:Value),ar a b=cJ b a
 W:zW=W
 th:∀(α:Type) (f:Unit->α),bc α f=f ()
 a:A=jV P
 l:L=Dj P n0
section
variable {P:Program} {C:dP} {n0:Nat} {zD:IntKind->Int->Int} {zE:Int->Int->Int} {zG:Int->Int->Int} {zH:Int->Int->Int} {zI:Int->Int->Int} {zJ:Int->Int->Int} {zK:IntKind->Int->Int->Int} {zL:IntKind->Int->Int->Int} {zM:IntKind->Int->Int->Int} {zN:IntKind->Int->Int->Int} {zO:IntKind->Int->Int->Int} {zR:IntKind->Int->Int->Int} {zS:Int->Int->Bool} {zT:Int->Int->Bool} {zU:Int->Int->Bool} {zV:Int->Int->Bool} {zX:Bool->Bool} {zY:Bool->Bool->Bool} {zZ:Bool->Bool->Bool} {zg:Int->Int->Int} {zh:Int->Int->Int} {zj:Int->Nat} {zu:Int->Nat->Bool} {zy:Nat->Int} {zz:Nat->Int->Nat} {aK:Nat->Nat->Bool} {ah:Nat->Nat->Nat} {aI:Int->Int->Nat} {aH:Int->Int->Nat->Bool} {ak:Nat->Nat->Nat->Bool} {aq:Int->Int->Nat->Bool} {ae:Rows->Nat} {aE:Rows->Nat->Option (List Tree)} {aB:Rows->Nat->List Tree->Rows} {aG:IntKind->Rows->Nat->Bool} {ao:Rows->Nat->Int} {az:IntKind->Rows->Nat->Int->Rows} {aJ:Nat->Nat->Rows->Bool} {an:Rows->Nat->Nat->Rows} {aO:Rows->Nat->Rows->Rows} {au:Rows->Nat->Rows->Rows} {aP:Nat->List Tree->Rows} {ai:Nat->Rows->Bool} {aM:List Bool->Bool} {aN:List (Value×Tree)->Value->Bool} {ay:List (Value×Tree)->Value->Bool} {aw:List (Value×Tree)->Value->Tree->List (Value×Tree)} {aL:Rows->Option ByteArray} {ar:List (Value×Tree)->Value->Option (Option Tree)} {zW:IntKind->List Int->Rows} {bc:(α:Type)->(Unit->α)->α} {A:FuncId->Ask->pc->Prop} {L:Code->St->(bC->ST->Prop)->Prop}
theorem Std.z (h:Std P n0 zD zE zG zH zI zJ zK zL zM zN zO zR zS zT zU zV zX zY zZ zg zh zj zu zy zz aK ah aI aH ak aq ae aE aB aG ao az aJ an aO au aP ai aM aN ay aw aL ar zW bc A L):ZI.mk zD zE zG zH zI zJ zK zL zM zN zO zR zS zT zU zV zX zY zZ zg zh zj zu zy zz aK ah aI aH ak aq ae aE aB aG ao az aJ an aO au aP ai aM aN ay aw aL ar=ZI.b9:=by
 obtain rfl:zD=(fun(a:IntKind) (b:Int)=>a.wrap b):=by funext a b;exact h.wrap ..
 obtain rfl:zE=(fun(a:Int) (b:Int)=>a+b):=by funext a b;exact h.add ..
 obtain rfl:zG=(fun(a:Int) (b:Int)=>a-b):=by funext a b;exact h.sub ..
 obtain rfl:zH=(fun(a:Int) (b:Int)=>a*b):=by funext a b;exact h.mul ..
 obtain rfl:zI=(fun(a:Int) (b:Int)=>a.tdiv b):=by funext a b;exact h.quo ..
 obtain rfl:zJ=(fun(a:Int) (b:Int)=>a.tmod b):=by funext a b;exact h.rem ..
 obtain rfl:zK=(fun(a:IntKind) (b:Int) (c:Int)=>a.wrap (b*2^(Min.min c.toNat a.bits))):=by funext a b c;exact h.shl ..
 obtain rfl:zL=(fun(a:IntKind) (b:Int) (c:Int)=>b.fdiv (2^(Min.min c.toNat a.bits))):=by funext a b c;exact h.shr ..
 obtain rfl:zM=(fun(a:IntKind) (b:Int) (c:Int)=>a.wrap ((BitVec.ofInt a.bits b &&& BitVec.ofInt a.bits c).toNat)):=by funext a b c;exact h.bP ..
 obtain rfl:zN=(fun(a:IntKind) (b:Int) (c:Int)=>a.wrap ((BitVec.ofInt a.bits b ||| BitVec.ofInt a.bits c).toNat)):=by funext a b c;exact h.eP ..
 obtain rfl:zO=(fun(a:IntKind) (b:Int) (c:Int)=>a.wrap ((BitVec.ofInt a.bits b ^^^ BitVec.ofInt a.bits c).toNat)):=by funext a b c;exact h.Kf ..
 obtain rfl:zR=(fun(a:IntKind) (b:Int) (c:Int)=>a.wrap ((BitVec.ofInt a.bits b &&& ~~~ BitVec.ofInt a.bits c).toNat)):=by funext a b c;exact h.Db ..
 obtain rfl:zS=(fun(a:Int) (b:Int)=>decide (a=b)):=by funext a b;exact h.eq ..
 obtain rfl:zT=(fun(a:Int) (b:Int)=>decide (a≠b)):=by funext a b;exact h.ne ..
 obtain rfl:zU=(fun(a:Int) (b:Int)=>decide (a<b)):=by funext a b;exact h.lt ..
 obtain rfl:zV=(fun(a:Int) (b:Int)=>decide (a<=b)):=by funext a b;exact h.le ..
 obtain rfl:zX=(fun(a:Bool)=>!a):=by funext a;exact h.not ..
 obtain rfl:zY=(fun(a:Bool) (b:Bool)=>(a==b)):=by funext a b;exact h.beq ..
 obtain rfl:zZ=(fun(a:Bool) (b:Bool)=>!(a==b)):=by funext a b;exact h.bne ..
 obtain rfl:zg=(fun(a:Int) (b:Int)=>if b>a then b else a):=by funext a b;exact h.max ..
 obtain rfl:zh=(fun(a:Int) (b:Int)=>if b<a then b else a):=by funext a b;exact h.min ..
 obtain rfl:zj=(fun(a:Int)=>a.toNat):=by funext a;exact h.nat ..
 obtain rfl:zu=(fun(a:Int) (b:Nat)=>decide (0<=a/\a<b)):=by funext a b;exact h.xo ..
 obtain rfl:zy=(fun(a:Nat)=>(a:Int)):=by funext a;exact h.aW ..
 obtain rfl:zz=(fun(a:Nat) (b:Int)=>a+b.toNat):=by funext a b;exact h.idx ..
 obtain rfl:aK=(fun(a:Nat) (b:Nat)=>decide (a=b)):=by funext a b;exact h.neq ..
 obtain rfl:ah=(fun(a:Nat) (b:Nat)=>a+b):=by funext a b;exact h.fc ..
 obtain rfl:aI=(fun(a:Int) (b:Int)=>a.toNat-b.toNat):=by funext a b;exact h.HF ..
 obtain rfl:aH=(fun(a:Int) (b:Int) (c:Nat)=>decide (0<=a/\a<=b/\b<=c)):=by funext a b c;exact h.cut ..
 obtain rfl:ak=(fun(a:Nat) (b:Nat) (c:Nat)=>decide ((a+b)*c<=aF)):=by funext a b c;exact h.room ..
 obtain rfl:aq=(fun(a:Int) (b:Int) (c:Nat)=>decide (0<=a/\a<=b/\b*c<=aF)):=by funext a b c;exact h.my ..
 obtain rfl:ae=(fun(a:Rows)=>a.length):=by funext a;exact h.len ..
 obtain rfl:aE=(fun(a:Rows) (b:Nat)=>a[b]?):=by funext a b;exact h.nth ..
 obtain rfl:aB=(fun(a:Rows) (b:Nat) (c:List Tree)=>a.set b c):=by funext a b c;exact h.Dc ..
 obtain rfl:aG=(fun(a:IntKind) (b:Rows) (c:Nat)=>ZI.b9.gJ a b c):=by funext a b c;exact h.gJ ..
 obtain rfl:ao=(fun(a:Rows) (b:Nat)=>ZI.b9.dL a b):=by funext a b;exact h.dL ..
 obtain rfl:az=(fun(a:IntKind) (b:Rows) (c:Nat) (d:Int)=>b.set c [.v (.int a d)]):=by funext a b c d;exact h.nK ..
 obtain rfl:aJ=(fun(a:Nat) (b:Nat) (c:Rows)=>decide (a+b<=c.length)):=by funext a b c;exact h.fit ..
 obtain rfl:an=(fun(a:Rows) (b:Nat) (c:Nat)=>(a.drop b).take c):=by funext a b c;exact h.part ..
 obtain rfl:aO=(fun(a:Rows) (b:Nat) (c:Rows)=>a.drop b++c):=by funext a b c;exact h.ext ..
 obtain rfl:au=(fun(a:Rows) (b:Nat) (c:Rows)=>bG a b c):=by funext a b c;exact h.AU ..
 obtain rfl:aP=(fun(a:Nat) (b:List Tree)=>List.replicate a b):=by funext a b;exact h.rep ..
 obtain rfl:ai=(fun(a:Nat) (b:Rows)=>b.all fun r=>r.length==a):=by funext a b;exact h.wide ..
 obtain rfl:aM=(fun(a:List Bool)=>a.all id):=by funext a;exact h.all ..
 obtain rfl:aN=(fun(a:List (Value×Tree)) (b:Value)=>ZI.b9.MI a b):=by funext a b;exact h.MI ..
 obtain rfl:ay=(fun(a:List (Value×Tree)) (b:Value)=>ZI.b9.Dd a b):=by funext a b;exact h.Dd ..
 obtain rfl:aw=(fun(a:List (Value×Tree)) (b:Value) (c:Tree)=>(fq b c a).getD a):=by funext a b c;exact h.HG ..
 obtain rfl:aL=(fun(a:Rows)=>ZI.b9.str a):=by funext a;exact h.str ..
 obtain rfl:ar=(fun(a:List (Value×Tree)) (b:Value)=>cJ b a):=by funext a b;exact h.find ..
 rfl
theorem Std.call (h:Std P n0 zD zE zG zH zI zJ zK zL zM zN zO zR zS zT zU zV zX zY zZ zg zh zj zu zy zz aK ah aI aH ak aq ae aE aB aG ao az aJ an aO au aP ai aM aN ay aw aL ar zW bc A L) {f:FuncId} {args:List Arg} {res:lJ} (hc:aA P f args res):A f (.a args) (.a res):=by rw[h.a];exact hc
def fo (Z:ZI):Nat->List Arg->List AV
 | _,[]=>[]
 | i,.val x::as=>x.av::fo Z (i+1) as
 | i,.eP _ rows::as=>.c (.sl i 0 (Z.len rows) false)::fo Z (i+1) as
 | i,.own _ rows::as=>.c (.sl i 0 (Z.len rows) false)::fo Z (i+1) as
 | i,.ref _::as=>.c (.ptr i 0 0)::fo Z (i+1) as
 | i,.dj f a8::as=>.c (.dj f a8)::fo Z (i+1) as
 | _,.gh _::_=>[]
def jZ (Z:ZI) (args:List Arg) (ntmps:Nat):St:=⟨fo Z 0 args++List.replicate (ntmps-jS args) .aj,args.map Arg.aR⟩
theorem fG:∀(i:Nat) (l:List Arg),fo ZI.b9 i l=dm i l
 | _,[]=>rfl
 | i,.val x::as=>by simp only[fo,dm,fG (i+1) as]
 | i,.eP _ rows::as=>by simp only[fo,dm,fG (i+1) as];rfl
 | i,.own _ rows::as=>by simp only[fo,dm,fG (i+1) as];rfl
 | i,.ref _::as=>by simp only[fo,dm,fG (i+1) as]
 | i,.dj _ _::as=>by simp only[fo,dm,fG (i+1) as]
 | _,.gh _::_=>rfl
theorem Bc (l:List Arg) (n:Nat):jZ ZI.b9 l n=fm l n:=by unfold jZ fm;rw[fG]
def Fl (Z:ZI) (h:Hp) (i:Nat):Arg->OZ (Option aU)
 | .eP sz rows=>match h i with
  | some (.rows ke r false false)=>if ke=sz then some ([Z.neq (Z.len r) (Z.len rows)],some (.rows sz r false false)) else none
  | _=>none
 | .ref cells=>match h i with
  | some (.var cs)=>match bL h cs with
   | some (_,[])=>if cs.length=cells.length then some ([],some (.var cs)) else none
   | _=>none
  | _=>none
 | .gh cells=>match h i with
  | some (.var cs)=>match bL h cs with
   | some (_,[])=>if cs.length=cells.length then some ([],some (.var cs)) else none
   | _=>none
  | _=>none
 | _=>some ([],none)
def uC (Z:ZI) (h:Hp):Nat->List Arg->OZ (List (Option aU))
 | _,[]=>some ([],[])
 | i,a::as=>match Fl Z h i a,uC Z h (i+1) as with
  | some (o,x),some (os,xs)=>some (o++os,x::xs)
  | _,_=>none
def pg (C:dP) (st:ST):ResultVar->Option AV
 | .tmp t=>some (st.get (.tmp t))
 | .cell a t=>match C.ty t,st.get (.tmp a) with
  | some ti,.c (.ptr b 0 c)=>match look st.heap b with
   | some (.var cells)=>da ti cells c
   | _=>none
  | _,_=>none
theorem vU {C:dP} {st:ST} (h:st.ok) (r:ResultVar):pg C st r=fF C st.fe r:=by
 cases r with
 | tmp t=>simp only[pg,fF,<-ST.get_eq st h];rfl
 | cell a t=>simp only[pg,fF,<-ST.get_eq st h,ST.np];rfl
def xr (Z:ZI) (C:dP) (st:ST) (args:List Arg) (I8:List ResultVar) (om:List Mode) (F:lJ->Prop):Prop:=
 match I8.mapM (pg C st) with
 | none=>False
 | some bJ=>
  match jX Z (look st.heap) om bJ with
  | none=>False
  | some (ob,as,marks,dE)=>
   match dE.filterMap bI.id with
   | is=>
   if decide is.Nodup&&is.all (fun i=>!(ids marks).contains i)&&is.all (fun i=>match args[i]? with|some a=>!a.Hv|none=>true) then
    match as.mapM Arg.rc,uC Z (look (dZ st.heap marks)) 0 args with
    | some Hw,some (Q2,outs)=>mz (ob++Q2) (F ⟨Hw,outs⟩)
    | _,_=>False
   else False
theorem Fm {h:Hp} {i:Nat} {x:Arg} {o:List Bool} {b:Option aU} (e:Fl ZI.b9 h i x=some (o,b)) (ho:eY o):od h i x=some b:=by
 unfold Fl at e;unfold od;split at e
 ·split at e
  ·rename_i hb
   split at e
   ·rename_i dG
    cases e;have:=iA ho;simp only[ZI.b9,decide_eq_true_eq]at this;simp only[hb];rw[if_pos ⟨dG,this⟩]
   ·cases e
  ·cases e
 ·split at e
  ·rename_i hb
   simp only[hb];split at e
   ·rename_i ht
    split at e
    ·rename_i dG
     cases e;simp only[ht];rw[if_pos dG]
    ·cases e
   ·cases e
  ·cases e
 ·split at e
  ·rename_i hb
   simp only[hb];split at e
   ·rename_i ht
    split at e
    ·rename_i dG
     cases e;simp only[ht];rw[if_pos dG]
    ·cases e
   ·cases e
  ·cases e
 ·rename_i n1 n2 n3
  cases e;split
  ·rename_i sz rows;exact absurd rfl (n1 _ _)
  ·rename_i cells;exact absurd rfl (n2 _)
  ·rename_i cells;exact absurd rfl (n3 _)
  ·rfl
theorem tI {h:Hp}:∀ {i:Nat} {l:List Arg} {o:List Bool} {b:List (Option aU)},uC ZI.b9 h i l=some (o,b)->eY o->oV h i l=some b
 | i,[],o,b,e,ho=>by cases e;rfl
 | i,a::as,o,b,e,ho=>by
  unfold uC at e;split at e
  ·rename_i h1 h2
   cases e;obtain⟨p,q⟩:=fj ho;simp only[oV,Fm h1 p,tI h2 q]
  ·cases e
theorem Dk {st:ST} (dC:st.ok) {args:List Arg} {I8:List ResultVar} {om:List Mode} {F:lJ->Prop} (h:xr ZI.b9 C st args I8 om F):∃r,F r/\finish C st.fe args I8 om=some r:=by
 unfold xr at h;unfold finish;unfold qz;rw[show pg C st=fF C st.fe from funext fun r=>vU dC r]at h;rw[ST.np];split at h
 ·exact h.elim
 ·rename_i bJ E8
  split at h
  ·exact h.elim
  ·rename_i ob as marks dE hp
   simp only at h;split at h
   ·rename_i hc
    split at h
    ·rename_i Hw Q2 outs h1 h2
     obtain⟨h3,h4⟩:=LW h;obtain⟨a,b⟩:=fj h3;refine⟨_,h4,?_⟩;simp only[E8,gQ hp a];refine(if_pos hc).trans ?_;simp only[h1,tI h2 b]
    ·exact h.elim
   ·exact h.elim
theorem fH (hC:bt P C) (ek:P.follows .mixedOrders=true) (hS:Std P n0 zD zE zG zH zI zJ zK zL zM zN zO zR zS zT zU zV zX zY zZ zg zh zj zu zy zz aK ah aI aH ak aq ae aE aB aG ao az aJ an aO au aP ai aM aN ay aw aL ar zW bc A L) {c:Code} {st:St} {Q:bC->ST->Prop} (I:Nat->St->Prop) {n:Nat} {s0:St} (hl:st.Le s0) (hb:s0.a9=true) (hk:n0<=s0.heap.length) (h0:I n s0)
  (round:∀n s,I n s->dz (ZI.mk zD zE zG zH zI zJ zK zL zM zN zO zR zS zT zU zV zX zY zZ zg zh zj zu zy zz aK ah aI aH ak aq ae aE aB aG ao az aJ an aO au aP ai aM aN ay aw aL ar) C A L c (ST.kv s) fun e s=>match e with
   | .normal=>match s.fe with
    | ⟨t,h⟩=>∃s',(St.mk t h).Le s'/\s'.a9=true/\n0<=s'.heap.length/\∃m,m<n/\I m s'
   | .exit id=>Q (.exit id) s
   | .ret=>Q .ret s):L c st Q:=by
 rw[hS.z,hS.a,hS.l]at round;rw[hS.l];refine fun hT=>qL.intro hC ek I hl hb hk h0 fun n s hI=>?_
 have:=fw c _ (ST.kx s) hT (round n s hI);rw[ST.gK]at this;refine N2 c s this fun e s1 h1=>?_
 obtain⟨s',ho,rfl,h2⟩:=h1;cases e with
 | normal=>exact h2
 | exit id=>exact⟨s',ho,rfl,h2⟩
 | ret=>exact⟨s',ho,rfl,h2⟩
theorem aV (hC:bt P C) (ek:P.follows .mixedOrders=true) {f:FuncId} {fn:Func} {c:Code} {args:List Arg} {res:lJ} (om:List Mode) (iN:P.funcs[f]?=some fn) (ez:(fn.name == "runtime.NumGoroutine")=false) (dn:fn.body=some c) (hT:iC c=true)
  (h:∀(zD:IntKind->Int->Int) (zE:Int->Int->Int) (zG:Int->Int->Int) (zH:Int->Int->Int) (zI:Int->Int->Int) (zJ:Int->Int->Int) (zK:IntKind->Int->Int->Int) (zL:IntKind->Int->Int->Int) (zM:IntKind->Int->Int->Int) (zN:IntKind->Int->Int->Int) (zO:IntKind->Int->Int->Int) (zR:IntKind->Int->Int->Int) (zS:Int->Int->Bool) (zT:Int->Int->Bool) (zU:Int->Int->Bool) (zV:Int->Int->Bool) (zX:Bool->Bool) (zY:Bool->Bool->Bool) (zZ:Bool->Bool->Bool) (zg:Int->Int->Int) (zh:Int->Int->Int) (zj:Int->Nat) (zu:Int->Nat->Bool) (zy:Nat->Int) (zz:Nat->Int->Nat) (aK:Nat->Nat->Bool) (ah:Nat->Nat->Nat) (aI:Int->Int->Nat) (aH:Int->Int->Nat->Bool) (ak:Nat->Nat->Nat->Bool) (aq:Int->Int->Nat->Bool) (ae:Rows->Nat) (aE:Rows->Nat->Option (List Tree)) (aB:Rows->Nat->List Tree->Rows) (aG:IntKind->Rows->Nat->Bool) (ao:Rows->Nat->Int) (az:IntKind->Rows->Nat->Int->Rows) (aJ:Nat->Nat->Rows->Bool) (an:Rows->Nat->Nat->Rows) (aO:Rows->Nat->Rows->Rows) (au:Rows->Nat->Rows->Rows) (aP:Nat->List Tree->Rows) (ai:Nat->Rows->Bool) (aM:List Bool->Bool) (aN:List (Value×Tree)->Value->Bool) (ay:List (Value×Tree)->Value->Bool) (aw:List (Value×Tree)->Value->Tree->List (Value×Tree)) (aL:Rows->Option ByteArray) (ar:List (Value×Tree)->Value->Option (Option Tree)) (zW:IntKind->List Int->Rows) (bc:(α:Type)->(Unit->α)->α) A L (F:lJ->Prop),Std P args.length zD zE zG zH zI zJ zK zL zM zN zO zR zS zT zU zV zX zY zZ zg zh zj zu zy zz aK ah aI aH ak aq ae aE aB aG ao az aJ an aO au aP ai aM aN ay aw aL ar zW bc A L->(∀r,aS r res->F r)->dz (ZI.mk zD zE zG zH zI zJ zK zL zM zN zO zR zS zT zU zV zX zY zZ zg zh zj zu zy zz aK ah aI aH ak aq ae aE aB aG ao az aJ an aO au aP ai aM aN ay aw aL ar) C A L c (ST.kv (jZ (ZI.mk zD zE zG zH zI zJ zK zL zM zN zO zR zS zT zU zV zX zY zZ zg zh zj zu zy zz aK ah aI aH ak aq ae aE aB aG ao az aJ an aO au aP ai aM aN ay aw aL ar) args fn.ntmps)) fun e s=>match e with
   | .exit _=>False
   | .normal=>xr (ZI.mk zD zE zG zH zI zJ zK zL zM zN zO zR zS zT zU zV zX zY zZ zg zh zj zu zy zz aK ah aI aH ak aq ae aE aB aG ao az aJ an aO au aP ai aM aN ay aw aL ar) C s args fn.results.toList om F
   | .ret=>xr (ZI.mk zD zE zG zH zI zJ zK zL zM zN zO zR zS zT zU zV zX zY zZ zg zh zj zu zy zz aK ah aI aH ak aq ae aE aB aG ao az aJ an aO au aP ai aM aN ay aw aL ar) C s args fn.results.toList om F):aA P f args res:=by
 have key:=h (fun(a:IntKind) (b:Int)=>a.wrap b) (fun(a:Int) (b:Int)=>a+b) (fun(a:Int) (b:Int)=>a-b) (fun(a:Int) (b:Int)=>a*b) (fun(a:Int) (b:Int)=>a.tdiv b) (fun(a:Int) (b:Int)=>a.tmod b) (fun(a:IntKind) (b:Int) (c:Int)=>a.wrap (b*2^(Min.min c.toNat a.bits))) (fun(a:IntKind) (b:Int) (c:Int)=>b.fdiv (2^(Min.min c.toNat a.bits))) (fun(a:IntKind) (b:Int) (c:Int)=>a.wrap ((BitVec.ofInt a.bits b &&& BitVec.ofInt a.bits c).toNat)) (fun(a:IntKind) (b:Int) (c:Int)=>a.wrap ((BitVec.ofInt a.bits b ||| BitVec.ofInt a.bits c).toNat)) (fun(a:IntKind) (b:Int) (c:Int)=>a.wrap ((BitVec.ofInt a.bits b ^^^ BitVec.ofInt a.bits c).toNat)) (fun(a:IntKind) (b:Int) (c:Int)=>a.wrap ((BitVec.ofInt a.bits b &&& ~~~ BitVec.ofInt a.bits c).toNat)) (fun(a:Int) (b:Int)=>decide (a=b)) (fun(a:Int) (b:Int)=>decide (a≠b)) (fun(a:Int) (b:Int)=>decide (a<b)) (fun(a:Int) (b:Int)=>decide (a<=b)) (fun(a:Bool)=>!a) (fun(a:Bool) (b:Bool)=>(a==b)) (fun(a:Bool) (b:Bool)=>!(a==b)) (fun(a:Int) (b:Int)=>if b>a then b else a) (fun(a:Int) (b:Int)=>if b<a then b else a) (fun(a:Int)=>a.toNat) (fun(a:Int) (b:Nat)=>decide (0<=a/\a<b)) (fun(a:Nat)=>(a:Int)) (fun(a:Nat) (b:Int)=>a+b.toNat) (fun(a:Nat) (b:Nat)=>decide (a=b)) (fun(a:Nat) (b:Nat)=>a+b) (fun(a:Int) (b:Int)=>a.toNat-b.toNat) (fun(a:Int) (b:Int) (c:Nat)=>decide (0<=a/\a<=b/\b<=c)) (fun(a:Nat) (b:Nat) (c:Nat)=>decide ((a+b)*c<=aF)) (fun(a:Int) (b:Int) (c:Nat)=>decide (0<=a/\a<=b/\b*c<=aF)) (fun(a:Rows)=>a.length) (fun(a:Rows) (b:Nat)=>a[b]?) (fun(a:Rows) (b:Nat) (c:List Tree)=>a.set b c) (fun(a:IntKind) (b:Rows) (c:Nat)=>ZI.b9.gJ a b c) (fun(a:Rows) (b:Nat)=>ZI.b9.dL a b) (fun(a:IntKind) (b:Rows) (c:Nat) (d:Int)=>b.set c [.v (.int a d)]) (fun(a:Nat) (b:Nat) (c:Rows)=>decide (a+b<=c.length)) (fun(a:Rows) (b:Nat) (c:Nat)=>(a.drop b).take c) (fun(a:Rows) (b:Nat) (c:Rows)=>a.drop b++c) (fun(a:Rows) (b:Nat) (c:Rows)=>bG a b c) (fun(a:Nat) (b:List Tree)=>List.replicate a b) (fun(a:Nat) (b:Rows)=>b.all fun r=>r.length==a) (fun(a:List Bool)=>a.all id) (fun(a:List (Value×Tree)) (b:Value)=>ZI.b9.MI a b) (fun(a:List (Value×Tree)) (b:Value)=>ZI.b9.Dd a b) (fun(a:List (Value×Tree)) (b:Value) (c:Tree)=>(fq b c a).getD a) (fun(a:Rows)=>ZI.b9.str a) (fun(a:List (Value×Tree)) (b:Value)=>cJ b a) W (fun(α:Type) (f:Unit->α)=>f ()) (jV P) (Dj P args.length) (fun r=>aS r res) ⟨fun _ _=>rfl,fun _ _=>rfl,fun _ _=>rfl,fun _ _=>rfl,fun _ _=>rfl,fun _ _=>rfl,fun _ _ _=>rfl,fun _ _ _=>rfl,fun _ _ _=>rfl,fun _ _ _=>rfl,fun _ _ _=>rfl,fun _ _ _=>rfl,fun _ _=>rfl,fun _ _=>rfl,fun _ _=>rfl,fun _ _=>rfl,fun _=>rfl,fun _ _=>rfl,fun _ _=>rfl,fun _ _=>rfl,fun _ _=>rfl,fun _=>rfl,fun _ _=>rfl,fun _=>rfl,fun _ _=>rfl,fun _ _=>rfl,fun _ _=>rfl,fun _ _=>rfl,fun _ _ _=>rfl,fun _ _ _=>rfl,fun _ _ _=>rfl,fun _=>rfl,fun _ _=>rfl,fun _ _ _=>rfl,fun _ _ _=>rfl,fun _ _=>rfl,fun _ _ _ _=>rfl,fun _ _ _=>rfl,fun _ _ _=>rfl,fun _ _ _=>rfl,fun _ _ _=>rfl,fun _ _=>rfl,fun _ _=>rfl,fun _=>rfl,fun _ _=>rfl,fun _ _=>rfl,fun _ _ _=>rfl,fun _=>rfl,fun _ _=>rfl,rfl,fun _ _=>rfl,rfl,rfl⟩ (fun r hr=>hr)
 have Tl:eV P C args.length c (jZ ZI.b9 args fn.ntmps) (Kj fun e s=>match e with
   | .exit _=>False
   | .normal=>xr ZI.b9 C s args fn.results.toList om (fun r=>aS r res)
   | .ret=>xr ZI.b9 C s args fn.results.toList om (fun r=>aS r res)):=by
  have k0:=fw c _ (ST.kx _) hT key;rw[ST.gK]at k0;exact k0
 rw[Bc]at Tl;have PC:=N2 c _ Tl (Q':=fun e s=>(e=.normal∨e=.ret)/\∃r,aS r res/\finish C s args fn.results.toList om=some r) fun e s hs=>by
  obtain⟨s',h1,rfl,hs⟩:=hs;cases e with
  | normal=>exact⟨.inl rfl,Dk h1 hs⟩
  | exit id=>exact hs.elim
  | ret=>exact⟨.inr rfl,Dk h1 hs⟩
 exact aA.Kk hC iN ez dn (eV.run hC ek c _ _ PC)
end
theorem fg {x:Int} (h0:0<=x) (h1:x<2^64):IntKind.wrap .u64 x=x:=by
 have:IntKind.wrap .u64 x=x%2^64:=rfl;rw[this,Int.emod_eq_of_lt h0 h1]
end Go.Abs
end
