/- A part of the proof. -/
import Derived.Laws.Tables
import Derived.Great.BuildSlice
import Derived.Test.YtekefilngojelaaGreatM4
set_option maxHeartbeats 0
set_option maxRecDepth 100000
set_option linter.unusedVariables false
set_option linter.unusedSimpArgs false
set_option linter.unusedSectionVars false
section
namespace Go.Abs
def iH (β:Nat->Option bR) (S:Place) (w:World) (cs:List Cell) (vs:Array Value):Prop:=
 vs.size=cs.length/\∀(i:Nat) (c:Cell),cs[i]?=some c->∃v,vs[i]?=some v/\dq β S w c v
theorem Pg {α:Type} (l xs:List α) (c k:Nat) (h:c+xs.length<=l.length) :
  (aX l c xs)[k]?=if c<=k/\k<c+xs.length then xs[k-c]? else l[k]?:=by
 unfold aX;rw[List.append_assoc,List.getElem?_append,List.length_take,Nat.min_eq_left (by omega)];split
 ·rw[if_neg (by omega),List.getElem?_take,if_pos (by assumption)]
 ·rw[List.getElem?_append]
  split
  ·rw[if_pos (by omega)]
  ·rw[if_neg (by omega),List.getElem?_drop]
   congr 1;omega
theorem SA {α:Type} (l xs:List α) (c:Nat) (h:c+xs.length<=l.length):(aX l c xs).length=l.length:=by
 unfold aX;simp only[List.length_append,List.length_take,List.length_drop];omega
theorem iH.set {β:Nat->Option bR} {S:Place} {w:World} {cs:List Cell} {vs:Array Value} (h:iH β S w cs vs) {off:Nat} {x:List Cell} {v:Value}
  (hl:v.cells.toList.length=x.length) (hx:∀(i:Nat) (c:Cell),x[i]?=some c->∃u,v.cells.toList[i]?=some u/\dq β S w c u) (hle:off+x.length<=cs.length) :
  iH β S w (aX cs off x) (v.cells.zipIdx.foldl (fun cs (c,j)=>cs.setIfInBounds (off+j) c) vs):=by
 have he:v.cells.zipIdx.foldl (fun cs (c,j)=>cs.setIfInBounds (off+j) c) vs=(v.cells.toList.zipIdx 0).foldl (fun cs (x:Value×Nat)=>cs.setIfInBounds (off+x.2) x.1) vs:=by
  rw[<-Array.foldl_toList,Array.toList_zipIdx]
 rw[he];obtain⟨h1,h2⟩:=Great.foldl_set off v.cells.toList 0 vs;refine⟨by rw[h1,SA _ _ _ hle];exact h.1,fun i c hi=>?_⟩;rw[Pg _ _ _ _ hle]at hi;rw[h2 i];split at hi
 ·rename_i iR
  rw[if_pos ⟨by omega,by omega,by rw[h.1];omega⟩];exact hx (i-off) c hi
 ·rw[if_neg (by omega)]
  exact h.2 i c hi
theorem wi {β:Nat->Option bR} {S:Place} {w:World} {Mg place:Nat->Option (Nat×Nat)} (hp:∀i p,Mg i=some p->place i=some p) :
  ∀(pa:List (Nat×AV)) (pv:List (Nat×Value)) (cs Yz:List Cell) (vs:Array Value),Al Mg cs pa=some Yz->pv.length=pa.length ->
  (∀(k:Nat) (i:Nat) (x:AV),pa[k]?=some (i,x)->∃v,pv[k]?=some (i,v)/\aH β S w x v)->iH β S w cs vs ->
  ∃arr,Instr.fill place vs pv=some arr/\iH β S w Yz arr
 | [],[],cs,Yz,vs,h,_,_,hc=>by simp[Al]at h;subst h;exact⟨vs,rfl,hc⟩
 | (i,x)::pa,[],_,_,_,_,hl,_,_=>by simp at hl
 | [],_::_,_,_,_,_,hl,_,_=>by simp at hl
 | (i,x)::pa,(j,v)::pv,cs,Yz,vs,h,hl,hr,hc=>by
  obtain⟨v',sQ,hx⟩:=hr 0 i x rfl;simp at sQ;obtain⟨rfl,rfl⟩:=sQ;unfold Al at h;split at h
  ·rename_i off size xs OG hcx
   split at h
   ·rename_i dS
    obtain⟨h1,h2⟩:=hx.Cs hcx;have jG:=hc.set h1 h2 (by rw[dS.1];exact dS.2);obtain⟨arr,h3,h4⟩:=wi hp pa pv _ _ _ h (by simpa using hl) (fun k i x hk=>by simpa using hr (k+1) i x (by simpa using hk)) jG;refine⟨arr,?_,h4⟩;unfold Instr.fill;rw[hp _ _ OG];have pF:v.cells.size=size:=by rw[<-dS.1,<-h1];simp
    simp only[pF,hc.1];rw[if_neg (by simp;exact dS.2)];exact h3
   ·cases h
  ·cases h
section
variable {P:Program} {C:eh} {K:Ctx} {β:Nat->Option bR} {S:Place} {st:St} {a:Act} {w:World} {slot:Nat} {e:bW} {o:Oper}
theorem qX {t:TypeId} {ti:TI} (dM:gV P t ti) (S:Place) (w:World) (β:Nat->Option bR):∃i z,P.info? t=some i/\i.zero=some z/\i.size=ti.size/\iH β S w (ti.zero.map .t) z.cells/\(ti.kind.agg=true->∃cs,z=.agg cs):=by
 obtain⟨i,h1,h2,h3,z,h4,h5⟩:=dM.info;obtain⟨z',e1,e2,e3,_,e5⟩:=dM.zeroValue w S;have hzz:z'=z:=by
  simp[Go.zeroValue,Go.typeInfo,h1,h4,Result.andThen]at e1;exact e1.symm
 subst hzz;refine⟨i,z',h1,h4,h2,⟨by rw[e2];simp[dM.len],fun i c hi=>?_⟩,e5⟩;obtain⟨t',mM,rfl⟩:=qT hi;obtain⟨v,hv,hr⟩:=e3 i t' mM;exact⟨v,by simpa using hv,.t hr⟩
theorem oi (h:Sat K β S st a w) (parts:Array (Nat×Operand)) (k i:Nat) (x:AV) (hk:(parts.toList.map fun p=>(p.1,st.get p.2))[k]?=some (i,x)) :
  ∃v,(parts.map fun(i,x)=>(i,a.eval x)).toList[k]?=some (i,v)/\aH β S w x v:=by
 rw[List.getElem?_map]at hk;obtain⟨p,h1,h2⟩:=Option.map_eq_some_iff.1 hk;simp only[Prod.mk.injEq]at h2;obtain⟨rfl,rfl⟩:=h2;refine⟨a.eval p.2,?_,h.get p.2⟩;rw[Array.toList_map,List.getElem?_map,h1];rfl
theorem Ph (hC:bq P C) (h:Sat K β S st a w) {t:TypeId} {parts:Array (Nat×Operand)} (ho:o.op=.build t parts)
  (he:evalOp C slot st.get (look st.heap) (.build t parts)=some e):fk P β S a w o e:=by
 simp only[evalOp]at he;have fin:∀arr cs,P.built t (parts.map fun(i,x)=>(i,a.eval x)).toList=some arr->iH β S w cs arr->e={ val:=.agg cs }->fk P β S a w o e:=by
  rintro arr cs hb hr rfl
  refine⟨rfl,.agg arr,?_,?_⟩
  ·simp only[execOp,ho,Sem.run_bind,run_build w t _ arr hb,Result.andThen,Sem.run_pure]
  ·have:arr=arr.toList.toArray:=by simp
   rw[this];exact .agg arr.toList (by simpa using hr.1) (by simpa using hr.2)
 split at he
 ·rename_i ti bZ
  have dM:=iV (hC t ti bZ);obtain⟨it,z,O5,Sp,hi3,hz,_⟩:=qX dM S w β;split at he
  ·rename_i fs hk
   obtain⟨fields,hu,GN⟩:=dM.struct hk;split at he
   ·rename_i cs hf
    cases he;have hm:∃mV,fields.toList.mapM (fun f=>(P.info? f.type).map fun i=>(f.offset,i.size))=some mV/\∀i p,qO C fs i=some p->mV.toArray[i]?=some p:=by
     have jr:=dM.fields fields hu;have gen:∀l:List Field,(∀f∈l,(P.info? f.type).isSome=true)->∃mV,l.mapM (fun f=>(P.info? f.type).map fun i=>(f.offset,i.size))=some mV /\
       ∀(i:Nat) (f:Field),l[i]?=some f->∃inf,P.info? f.type=some inf/\mV[i]?=some (f.offset,inf.size):=by
      intro l
      induction l with
      | nil=>intro _;exact⟨[],rfl,by simp⟩
      | cons f l ih=>
       intro hl;obtain⟨inf,VA⟩:=Option.isSome_iff_exists.1 (hl f (by simp));obtain⟨pl,e1,e2⟩:=ih fun g hg=>hl g (by simp[hg])
       refine⟨(f.offset,inf.size)::pl,by simp[List.mapM_cons,VA,e1],fun i g hg=>?_⟩;cases i with
       | zero=>simp at hg;subst hg;exact⟨inf,VA,rfl⟩
       | succ i=>simpa using e2 i g (by simpa using hg)
     obtain⟨mV,e1,e2⟩:=gen fields.toList jr;refine⟨mV,e1,fun i p hp=>?_⟩;unfold qO at hp;split at hp
     ·rename_i off ft O0
      obtain⟨tf,Vs,rfl⟩:=Option.map_eq_some_iff.1 hp;rw[<-GN,List.getElem?_map]at O0;obtain⟨fl,Ct,Ef⟩:=Option.map_eq_some_iff.1 O0;simp only[Prod.mk.injEq]at Ef;obtain⟨rfl,rfl⟩:=Ef;obtain⟨inf,e3,e4⟩:=e2 i fl Ct;obtain⟨afV,e5,e6,_⟩:=(iV (hC _ tf Vs)).info;rw[e3]at e5;cases e5;simp[e4,e6]
     ·cases hp
    obtain⟨mV,OG,aau⟩:=hm;obtain⟨arr,h1,h2⟩:=wi (β:=β) (S:=S) (w:=w) aau _ _ _ _ _ hf (by simp) (oi h parts) hz;refine fin arr cs ?_ h2 rfl;unfold Program.built;simp only[O5,hu,Sp,OG];exact h1
   ·cases he
  ·rename_i n el hk
   split at he
   ·rename_i te du
    split at he
    ·rename_i cs hf
     cases he;obtain⟨ie,e1,e2,_⟩:=(iV (hC _ te du)).info;obtain⟨arr,h1,h2⟩:=wi (β:=β) (S:=S) (w:=w) (place:=fun i=>some (i*ie.size,ie.size)) (fun i p hp=>by rw[e2];exact hp) _ _ _ _ _ hf (by simp) (oi h parts) hz;refine fin arr cs ?_ h2 rfl;unfold Program.built;simp only[O5,dM.array hk,Sp,e1];exact h1
    ·cases he
   ·cases he
  ·cases he
 ·cases he
theorem Sat.new (h:Sat K β S st a w) (hs:slot<st.heap.length) (hf:β slot=none) {w':World} {ob:Obj} {au:aC} {R:bR} {S':Place}
  (hh:w'.heap=w.heap.push ob) (Mh:w'.os=w.os) (wj:w'.tape=w.tape) (Hj:w'.output=w.output)
  (YA:R.cb=w.heap.size) (hS:∀c o,S c o->S' c o) (Vp:∀c o,S' c o->S c o∨c=w.heap.size)
  (iU:eA (fun b=>if b=slot then some R else β b) S' w' K.B0 R au) (GV:∀c o,au.wr R c o->¬S' c o) :
  Sat K (fun b=>if b=slot then some R else β b) S' ⟨st.tmps,st.heap.set slot (some au)⟩ a w':=by
 have adq:look st.heap slot=none:=by
  cases hl:look st.heap slot with
  | none=>rfl
  | some au=>obtain⟨R,h1,_⟩:=h.au slot au hl;rw[hf]at h1;cases h1
 have hk:fh (fun _ _=>False) w w':=by
  refine⟨Mh,wj,Hj,by rw[hh];simp,fun k UE hk=>?_⟩;have bG:k<w.heap.size:=by
   rcases Nat.lt_or_ge k w.heap.size with h|h
   ·exact h
   ·rw[Array.getElem?_eq_none h]at hk;cases hk
  rw[hh,Array.getElem?_push,if_neg (by omega),hk];exact fP.refl _ _ _
 have mW:∀b,b≠slot->look (st.heap.set slot (some au)) b=look st.heap b:=by
  intro b hb;unfold look;rw[List.getElem?_set,if_neg (by omega)]
 have SB:look (st.heap.set slot (some au)) slot=some au:=by
  unfold look;rw[List.getElem?_set,if_pos rfl,if_pos hs];rfl
 have hβ:∀b R',β b=some R'->(if b=slot then some R else β b)=some R':=by
  intro b R' hb;split
  ·rename_i wk;subst wk;rw[hf]at hb;cases hb
  ·exact hb
 refine h.step (Wr:=fun _ _=>False) (fun b=>b=slot) hk (fun _ _ hx=>hx.elim) hβ (fun b R' hb=>?_) hS (fun c o hc=>?_) (fun b db hD hb=>?_) (fun b db hD hb=>?_)
 ·simp only[List.length_set]
  by_cases wk:b=slot
  ·omega
  ·rw[if_neg wk]at hb;exact h.top b R' hb
 ·rcases Vp c o hc with h1|h1
  ·exact .inl h1
  ·refine .inr ⟨by rw[hh];simp;omega,.inl (by have:=h.jF.size;unfold Ctx.B0;omega),fun b db R' hD hb hR hx=>?_⟩
   obtain⟨wm,e1,_,e3,_⟩:=h.au b db hb;rw[hR]at e1;cases e1;have:=(e3 c o (aC.fG hx)).1;omega
 ·rw[<-mW b hD];exact hb
 ·subst hD
  rw[SB]at hb;cases hb;refine⟨R,by simp,iU,fun c o hx=>?_,GV,fun b' iI R' cY bK gW c o hx hy=>?_⟩
  ·have:c=R.cb:=hx.1
   exact⟨by rw[hh];simp;omega,.inl (by have:=h.jF.size;unfold Ctx.B0;omega)⟩
  ·rw[mW b' cY]at bK
   rw[if_neg cY]at gW;obtain⟨wm,e1,_,e3,_⟩:=h.au b' iI bK;rw[gW]at e1;cases e1;have e4:c=R.cb:=hx.1;have:=(e3 c o hy).1;omega
theorem jn {w w':World} {cells:Array Value} {el:TypeId} (hh:w'.heap=w.heap.push (.cells cells el (0,0))) (k:Nat):w'.cell? ⟨w.heap.size,k,none⟩=cells[k]?/\w'.frozen? ⟨w.heap.size,k,none⟩=false:=by
 unfold World.cell? World.frozen?;rw[hh];simp
theorem wq {w w':World} {ob:Obj} (hh:w'.heap=w.heap.push ob) {c:Nat} (hc:c<w.heap.size) (o:Nat):w'.cell? ⟨c,o,none⟩=w.cell? ⟨c,o,none⟩:=by
 unfold World.cell?;rw[hh,Array.getElem?_push,if_neg (by simp;omega)]
theorem Sat.newVar (h:Sat K β S st a w) (hs:slot<st.heap.length) (hf:β slot=none) {w':World} {cells:Array Value} {el:TypeId} {cs:List Cell}
  (hh:w'.heap=w.heap.push (.cells cells el (0,0))) (Mh:w'.os=w.os) (wj:w'.tape=w.tape) (Hj:w'.output=w.output) (hc:iH β S w cs cells) :
  ∃β',(∀b,b≠slot->β' b=β b)/\Sat K β' S ⟨st.tmps,st.heap.set slot (some (.var cs))⟩ a w'/\aH β' S w' (.c (.ptr slot 0 0)) (.pointer (some ⟨w.heap.size,0,none⟩)):=by
 let R:bR:=⟨w.heap.size,0,1,0⟩
 have I3:∀c v,dq β S w c v->dq (fun b=>if b=slot then some R else β b) S w' c v:=fun c v hr=>
  hr.mono (fun b R' hb=>by rw[if_neg (by rintro rfl;rw[hf]at hb;cases hb)];exact hb) (fun _ _ hx=>hx) (fun b o hb=>wq hh (h.sN b o hb) o)
 refine⟨fun b=>if b=slot then some R else β b,fun b hb=>if_neg hb,?_,?_⟩
 ·refine h.new hs hf (R:=R) hh Mh wj Hj rfl (fun _ _ hx=>hx) (fun _ _ hx=>.inl hx) ⟨⟨fun o h1 h2=>?_,rfl,by show 0<2^63;decide⟩,fun j c hj=>?_⟩ fun c o hx hy=>?_
  ·obtain⟨e1,e2⟩:=jn hh o
   refine⟨?_,e2⟩;rw[e1,Array.getElem?_eq_getElem (by have I4:o<0+max cs.length 0:=h2;rw[hc.1];omega)];rfl
  ·obtain⟨v,e1,e2⟩:=hc.2 j c hj
   refine⟨v,?_,I3 c v e2⟩;rw[show R.co+j=j from Nat.zero_add j,(jn hh j).1,e1]
  ·have e1:c=w.heap.size:=hx.1
   have:=h.sN c o hy;omega
 ·exact .c (.ptr (r:=0) (c:=0) R (by simp))
theorem Sat.Cy (h:Sat K β S st a w) (hs:slot<st.heap.length) (hf:β slot=none) {w':World} {cells:Array Value} {el:TypeId} {rows:List (List Tree)} {size cap:Nat} {g fz:Bool}
  (hh:w'.heap=w.heap.push (.cells cells el (0,0))) (Mh:w'.os=w.os) (wj:w'.tape=w.tape) (Hj:w'.output=w.output)
  (dS:∀r∈rows,r.length=size) (Hk:rows.length<=cap) (VB:cap<2^63) (hlen:rows.length<2^60) (Cz:cells.size=cap*size) (Ct:Flat S w rows size (cells.toList.take (rows.length*size))) :
  ∃β' S',(∀b,b≠slot->β' b=β b)/\Sat K β' S' ⟨st.tmps,st.heap.set slot (some (.rows size rows g fz))⟩ a w' /\
   aH β' S' w' (.c (.sl slot 0 rows.length false)) (.slice (some ⟨w.heap.size,0,none⟩) rows.length cap) /\
   (∀x v,aH β S w x v->aH β' S' w' x v):=by
 let R:bR:=⟨w.heap.size,0,size,cap⟩
 let S':Place:=fun c o=>S c o∨(fz=true/\c=w.heap.size/\o<rows.length*size)
 have Ao:∀c o,S c o->S' c o:=fun _ _ hx=>.inl hx
 have hold:∀b o,S b o->w'.cell? ⟨b,o,none⟩=w.cell? ⟨b,o,none⟩:=fun b o hb=>wq hh (h.sN b o hb) o
 have hmul:rows.length*size<=cap*size:=Nat.mul_le_mul_right size Hk;have Kb:∀b R',β b=some R'->(if b=slot then some R else β b)=some R':=fun b R' hb=>by rw[if_neg (by rintro rfl;rw[hf]at hb;cases hb)];exact hb
 refine⟨fun b=>if b=slot then some R else β b,S',fun b hb=>if_neg hb,?_,?_,fun x v hr=>hr.mono Kb Ao hold⟩
 ·refine h.new hs hf (R:=R) hh Mh wj Hj rfl Ao (fun c o hx=>?_) ⟨rfl,dS,Hk,VB,hlen,fun o h1 h2=>?_,fun i j t ht=>?_,fun GW o h1 h2=>?_⟩ fun c o hx hy=>?_
  ·rcases hx with hx|⟨_,hx,_⟩
   ·exact .inl hx
   ·exact .inr hx
  ·obtain⟨e1,e2⟩:=jn hh o
   refine⟨?_,e2⟩;have:o<cells.size:=by
    rw[Cz];have I4:o<0+(if g then cap else rows.length)*size:=h2;cases g
    ·simp at I4;omega
    ·simp at I4;omega
   rw[e1,Array.getElem?_eq_getElem this];rfl
  ·obtain⟨v,e1,e2⟩:=Ct.2 i j t ht
   obtain⟨_,_,bG⟩:=g7 dS ht;refine⟨v,?_,e2.mono Ao hold⟩;rw[List.getElem?_take,if_pos bG]at e1;rw[show R.co+i*R.ai+j=i*size+j by simp[R],(jn hh _).1];simpa using e1
  ·exact .inr ⟨GW,rfl,by simpa[R]using h2⟩
  ·obtain⟨e1,e2,e3⟩:=hx
   have VC:c=w.heap.size:=e1;rcases hy with hy|⟨GW,_,bG⟩
   ·have:=h.sN c o hy;omega
   ·rw[if_pos GW]at e2
    simp only[R,Nat.zero_add]at e2;omega
 ·refine .c (.sl R _ cap (by simp) (by simp) (by simp[R]) Hk (by simp[R]) fun _=>by simp[R])
end
end Go.Abs
end
