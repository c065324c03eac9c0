/- A part. -/
import Derived.Laws.Tables
import Derived.Great.BuildSlice
import Derived.Test.YtekefilngojelaaGreatM4
set_option maxHeartbeats 0
set_option maxRecDepth 100000
set_option linter.unusedVariables false
set_option linter.unusedSimpArgs false
set_option linter.unusedSectionVars false
section
namespace Go.Abs
def iS (β:Nat->Option bZ) (S:Place) (w:World) (cs:List Cell) (vs:Array Value):Prop:=
 vs.size=cs.length/\∀(i:Nat) (c:Cell),cs[i]?=some c->∃v,vs[i]?=some v/\dv β S w c v
theorem OV {α:Type} (l xs:List α) (c k:Nat) (h:c+xs.length<=l.length) :
  (aZ l c xs)[k]?=if c<=k/\k<c+xs.length then xs[k-c]? else l[k]?:=by
 unfold aZ;rw[List.append_assoc,List.getElem?_append,List.length_take,Nat.min_eq_left (by omega)];split
 ·rw[if_neg (by omega),List.getElem?_take,if_pos (by assumption)]
 ·rw[List.getElem?_append]
  split
  ·rw[if_pos (by omega)]
  ·rw[if_neg (by omega),List.getElem?_drop]
   congr 1;omega
theorem RY {α:Type} (l xs:List α) (c:Nat) (h:c+xs.length<=l.length):(aZ l c xs).length=l.length:=by
 unfold aZ;simp only[List.length_append,List.length_take,List.length_drop];omega
theorem iS.set {β:Nat->Option bZ} {S:Place} {w:World} {cs:List Cell} {vs:Array Value} (h:iS β S w cs vs) {off:Nat} {x:List Cell} {v:Value}
  (hl:v.cells.toList.length=x.length) (hx:∀(i:Nat) (c:Cell),x[i]?=some c->∃u,v.cells.toList[i]?=some u/\dv β S w c u) (hle:off+x.length<=cs.length) :
  iS β S w (aZ cs off x) (v.cells.zipIdx.foldl (fun cs (c,j)=>cs.setIfInBounds (off+j) c) vs):=by
 have he:v.cells.zipIdx.foldl (fun cs (c,j)=>cs.setIfInBounds (off+j) c) vs=(v.cells.toList.zipIdx 0).foldl (fun cs (x:Value×Nat)=>cs.setIfInBounds (off+x.2) x.1) vs:=by
  rw[<-Array.foldl_toList,Array.toList_zipIdx]
 rw[he];obtain⟨h1,h2⟩:=Great.foldl_set off v.cells.toList 0 vs;refine⟨by rw[h1,RY _ _ _ hle];exact h.1,fun i c hi=>?_⟩;rw[OV _ _ _ _ hle]at hi;rw[h2 i];split at hi
 ·rename_i jc
  rw[if_pos ⟨by omega,by omega,by rw[h.1];omega⟩];exact hx (i-off) c hi
 ·rw[if_neg (by omega)]
  exact h.2 i c hi
theorem wc {β:Nat->Option bZ} {S:Place} {w:World} {LY place:Nat->Option (Nat×Nat)} (hp:∀i p,LY i=some p->place i=some p) :
  ∀(pa:List (Nat×AV)) (pv:List (Nat×Value)) (cs XR:List Cell) (vs:Array Value),Ai LY cs pa=some XR->pv.length=pa.length ->
  (∀(k:Nat) (i:Nat) (x:AV),pa[k]?=some (i,x)->∃v,pv[k]?=some (i,v)/\aI β S w x v)->iS β S w cs vs ->
  ∃arr,Instr.fill place vs pv=some arr/\iS β S w XR arr
 | [],[],cs,XR,vs,h,_,_,hc=>by simp[Ai]at h;subst h;exact⟨vs,rfl,hc⟩
 | (i,x)::pa,[],_,_,_,_,hl,_,_=>by simp at hl
 | [],_::_,_,_,_,_,hl,_,_=>by simp at hl
 | (i,x)::pa,(j,v)::pv,cs,XR,vs,h,hl,hr,hc=>by
  obtain⟨v',sV,hx⟩:=hr 0 i x rfl;simp at sV;obtain⟨rfl,rfl⟩:=sV;unfold Ai at h;split at h
  ·rename_i off size xs Oi Zz
   split at h
   ·rename_i dY
    obtain⟨h1,h2⟩:=hx.Cq Zz;have jN:=hc.set h1 h2 (by rw[dY.1];exact dY.2);obtain⟨arr,h3,h4⟩:=wc hp pa pv _ _ _ h (by simpa using hl) (fun k i x hk=>by simpa using hr (k+1) i x (by simpa using hk)) jN;refine⟨arr,?_,h4⟩;unfold Instr.fill;rw[hp _ _ Oi];have pP:v.cells.size=size:=by rw[<-dY.1,<-h1];simp
    simp only[pP,hc.1];rw[if_neg (by simp;exact dY.2)];exact h3
   ·cases h
  ·cases h
section
variable {P:Program} {C:eA} {K:Ctx} {β:Nat->Option bZ} {S:Place} {st:St} {a:Act} {w:World} {slot:Nat} {e:cR} {o:Oper}
theorem rf {t:TypeId} {ti:TI} (dQ:g9 P t ti) (S:Place) (w:World) (β:Nat->Option bZ):∃i z,P.info? t=some i/\i.zero=some z/\i.size=ti.size/\iS β S w (ti.zero.map .t) z.cells/\(ti.kind.agg=true->∃cs,z=.agg cs):=by
 obtain⟨i,h1,h2,h3,z,h4,h5⟩:=dQ.info;obtain⟨z',e1,e2,e3,_,e5⟩:=dQ.zeroValue w S;have ZA:z'=z:=by
  simp[Go.zeroValue,Go.typeInfo,h1,h4,Result.andThen]at e1;exact e1.symm
 subst ZA;refine⟨i,z',h1,h4,h2,⟨by rw[e2];simp[dQ.len],fun i c hi=>?_⟩,e5⟩;obtain⟨t',mX,rfl⟩:=qZ hi;obtain⟨v,hv,hr⟩:=e3 i t' mX;exact⟨v,by simpa using hv,.t hr⟩
theorem oq (h:Sat K β S st a w) (parts:Array (Nat×Operand)) (k i:Nat) (x:AV) (hk:(parts.toList.map fun p=>(p.1,st.get p.2))[k]?=some (i,x)) :
  ∃v,(parts.map fun(i,x)=>(i,a.eval x)).toList[k]?=some (i,v)/\aI β S w x v:=by
 rw[List.getElem?_map]at hk;obtain⟨p,h1,h2⟩:=Option.map_eq_some_iff.1 hk;simp only[Prod.mk.injEq]at h2;obtain⟨rfl,rfl⟩:=h2;refine⟨a.eval p.2,?_,h.get p.2⟩;rw[Array.toList_map,List.getElem?_map,h1];rfl
theorem OW (hC:bC P C) (h:Sat K β S st a w) {t:TypeId} {parts:Array (Nat×Operand)} (ho:o.op=.build t parts)
  (he:evalOp C slot st.get (look st.heap) (.build t parts)=some e):fw P β S a w o e:=by
 simp only[evalOp]at he;have fin:∀arr cs,P.built t (parts.map fun(i,x)=>(i,a.eval x)).toList=some arr->iS β S w cs arr->e={ val:=.agg cs }->fw P β S a w o e:=by
  rintro arr cs hb hr rfl
  refine⟨rfl,.agg arr,?_,?_⟩
  ·simp only[execOp,ho,Sem.run_bind,run_build w t _ arr hb,Result.andThen,Sem.run_pure]
  ·have:arr=arr.toList.toArray:=by simp
   rw[this];exact .agg arr.toList (by simpa using hr.1) (by simpa using hr.2)
 split at he
 ·rename_i ti cZ
  have dQ:=jh (hC t ti cZ);obtain⟨it,z,OI,RQ,hi3,hz,_⟩:=rf dQ S w β;split at he
  ·rename_i fs hk
   obtain⟨fields,hu,Gz⟩:=dQ.struct hk;split at he
   ·rename_i cs hf
    cases he;have hm:∃ni,fields.toList.mapM (fun f=>(P.info? f.type).map fun i=>(f.offset,i.size))=some ni/\∀i p,qU C fs i=some p->ni.toArray[i]?=some p:=by
     have jA:=dQ.fields fields hu;have gen:∀l:List Field,(∀f∈l,(P.info? f.type).isSome=true)->∃ni,l.mapM (fun f=>(P.info? f.type).map fun i=>(f.offset,i.size))=some ni /\
       ∀(i:Nat) (f:Field),l[i]?=some f->∃inf,P.info? f.type=some inf/\ni[i]?=some (f.offset,inf.size):=by
      intro l
      induction l with
      | nil=>intro _;exact⟨[],rfl,by simp⟩
      | cons f l ih=>
       intro hl;obtain⟨inf,Vg⟩:=Option.isSome_iff_exists.1 (hl f (by simp));obtain⟨pl,e1,e2⟩:=ih fun g hg=>hl g (by simp[hg])
       refine⟨(f.offset,inf.size)::pl,by simp[List.mapM_cons,Vg,e1],fun i g hg=>?_⟩;cases i with
       | zero=>simp at hg;subst hg;exact⟨inf,Vg,rfl⟩
       | succ i=>simpa using e2 i g (by simpa using hg)
     obtain⟨ni,e1,e2⟩:=gen fields.toList jA;refine⟨ni,e1,fun i p hp=>?_⟩;unfold qU at hp;split at hp
     ·rename_i off ft OG
      obtain⟨tf,UZ,rfl⟩:=Option.map_eq_some_iff.1 hp;rw[<-Gz,List.getElem?_map]at OG;obtain⟨fl,Cr,Ea⟩:=Option.map_eq_some_iff.1 OG;simp only[Prod.mk.injEq]at Ea;obtain⟨rfl,rfl⟩:=Ea;obtain⟨inf,e3,e4⟩:=e2 i fl Cr;obtain⟨aet,e5,e6,_⟩:=(jh (hC _ tf UZ)).info;rw[e3]at e5;cases e5;simp[e4,e6]
     ·cases hp
    obtain⟨ni,Oi,ZB⟩:=hm;obtain⟨arr,h1,h2⟩:=wc (β:=β) (S:=S) (w:=w) ZB _ _ _ _ _ hf (by simp) (oq h parts) hz;refine fin arr cs ?_ h2 rfl;unfold Program.built;simp only[OI,hu,RQ,Oi];exact h1
   ·cases he
  ·rename_i n el hk
   split at he
   ·rename_i te dx
    split at he
    ·rename_i cs hf
     cases he;obtain⟨ie,e1,e2,_⟩:=(jh (hC _ te dx)).info;obtain⟨arr,h1,h2⟩:=wc (β:=β) (S:=S) (w:=w) (place:=fun i=>some (i*ie.size,ie.size)) (fun i p hp=>by rw[e2];exact hp) _ _ _ _ _ hf (by simp) (oq h parts) hz;refine fin arr cs ?_ h2 rfl;unfold Program.built;simp only[OI,dQ.array hk,RQ,e1];exact h1
    ·cases he
   ·cases he
  ·cases he
 ·cases he
theorem Sat.new (h:Sat K β S st a w) (hs:slot<st.heap.length) (hf:β slot=none) {w':World} {ob:Obj} {ao:aA} {R:bZ} {S':Place}
  (hh:w'.heap=w.heap.push ob) (LZ:w'.os=w.os) (we:w'.tape=w.tape) (G9:w'.output=w.output)
  (XW:R.cb=w.heap.size) (hS:∀c o,S c o->S' c o) (UW:∀c o,S' c o->S c o∨c=w.heap.size)
  (je:eH (fun b=>if b=slot then some R else β b) S' w' K.B0 R ao) (GH:∀c o,ao.wr R c o->¬S' c o) :
  Sat K (fun b=>if b=slot then some R else β b) S' ⟨st.tmps,st.heap.set slot (some ao)⟩ a w':=by
 have ab3:look st.heap slot=none:=by
  cases hl:look st.heap slot with
  | none=>rfl
  | some ao=>obtain⟨R,h1,_⟩:=h.ao slot ao hl;rw[hf]at h1;cases h1
 have hk:fp (fun _ _=>False) w w':=by
  refine⟨LZ,we,G9,by rw[hh];simp,fun k Uk hk=>?_⟩;have bJ:k<w.heap.size:=by
   rcases Nat.lt_or_ge k w.heap.size with h|h
   ·exact h
   ·rw[Array.getElem?_eq_none h]at hk;cases hk
  rw[hh,Array.getElem?_push,if_neg (by omega),hk];exact fZ.refl _ _ _
 have nj:∀b,b≠slot->look (st.heap.set slot (some ao)) b=look st.heap b:=by
  intro b hb;unfold look;rw[List.getElem?_set,if_neg (by omega)]
 have RZ:look (st.heap.set slot (some ao)) slot=some ao:=by
  unfold look;rw[List.getElem?_set,if_pos rfl,if_pos hs];rfl
 have hβ:∀b R',β b=some R'->(if b=slot then some R else β b)=some R':=by
  intro b R' hb;split
  ·rename_i wh;subst wh;rw[hf]at hb;cases hb
  ·exact hb
 refine h.step (Wr:=fun _ _=>False) (fun b=>b=slot) hk (fun _ _ hx=>hx.elim) hβ (fun b R' hb=>?_) hS (fun c o hc=>?_) (fun b dj hD hb=>?_) (fun b dj hD hb=>?_)
 ·simp only[List.length_set]
  by_cases wh:b=slot
  ·omega
  ·rw[if_neg wh]at hb;exact h.top b R' hb
 ·rcases UW c o hc with h1|h1
  ·exact .inl h1
  ·refine .inr ⟨by rw[hh];simp;omega,.inl (by have:=h.jM.size;unfold Ctx.B0;omega),fun b dj R' hD hb hR hx=>?_⟩
   obtain⟨wi,e1,_,e3,_⟩:=h.ao b dj hb;rw[hR]at e1;cases e1;have:=(e3 c o (aA.fL hx)).1;omega
 ·rw[<-nj b hD];exact hb
 ·subst hD
  rw[RZ]at hb;cases hb;refine⟨R,by simp,je,fun c o hx=>?_,GH,fun b' iU R' dh bQ ia c o hx hy=>?_⟩
  ·have:c=R.cb:=hx.1
   exact⟨by rw[hh];simp;omega,.inl (by have:=h.jM.size;unfold Ctx.B0;omega)⟩
  ·rw[nj b' dh]at bQ
   rw[if_neg dh]at ia;obtain⟨wi,e1,_,e3,_⟩:=h.ao b' iU bQ;rw[ia]at e1;cases e1;have e4:c=R.cb:=hx.1;have:=(e3 c o hy).1;omega
theorem jy {w w':World} {cells:Array Value} {el:TypeId} (hh:w'.heap=w.heap.push (.cells cells el (0,0))) (k:Nat):w'.cell? ⟨w.heap.size,k,none⟩=cells[k]?/\w'.frozen? ⟨w.heap.size,k,none⟩=false:=by
 unfold World.cell? World.frozen?;rw[hh];simp
theorem wj {w w':World} {ob:Obj} (hh:w'.heap=w.heap.push ob) {c:Nat} (hc:c<w.heap.size) (o:Nat):w'.cell? ⟨c,o,none⟩=w.cell? ⟨c,o,none⟩:=by
 unfold World.cell?;rw[hh,Array.getElem?_push,if_neg (by simp;omega)]
theorem Sat.newVar (h:Sat K β S st a w) (hs:slot<st.heap.length) (hf:β slot=none) {w':World} {cells:Array Value} {el:TypeId} {cs:List Cell}
  (hh:w'.heap=w.heap.push (.cells cells el (0,0))) (LZ:w'.os=w.os) (we:w'.tape=w.tape) (G9:w'.output=w.output) (hc:iS β S w cs cells) :
  ∃β',(∀b,b≠slot->β' b=β b)/\Sat K β' S ⟨st.tmps,st.heap.set slot (some (.var cs))⟩ a w'/\aI β' S w' (.c (.ptr slot 0 0)) (.pointer (some ⟨w.heap.size,0,none⟩)):=by
 let R:bZ:=⟨w.heap.size,0,1,0⟩
 have IG:∀c v,dv β S w c v->dv (fun b=>if b=slot then some R else β b) S w' c v:=fun c v hr=>
  hr.mono (fun b R' hb=>by rw[if_neg (by rintro rfl;rw[hf]at hb;cases hb)];exact hb) (fun _ _ hx=>hx) (fun b o hb=>wj hh (h.sT b o hb) o)
 refine⟨fun b=>if b=slot then some R else β b,fun b hb=>if_neg hb,?_,?_⟩
 ·refine h.new hs hf (R:=R) hh LZ we G9 rfl (fun _ _ hx=>hx) (fun _ _ hx=>.inl hx) ⟨⟨fun o h1 h2=>?_,rfl,by show 0<2^63;decide⟩,fun j c hj=>?_⟩ fun c o hx hy=>?_
  ·obtain⟨e1,e2⟩:=jy hh o
   refine⟨?_,e2⟩;rw[e1,Array.getElem?_eq_getElem (by have IH:o<0+max cs.length 0:=h2;rw[hc.1];omega)];rfl
  ·obtain⟨v,e1,e2⟩:=hc.2 j c hj
   refine⟨v,?_,IG c v e2⟩;rw[show R.co+j=j from Nat.zero_add j,(jy hh j).1,e1]
  ·have e1:c=w.heap.size:=hx.1
   have:=h.sT c o hy;omega
 ·exact .c (.ptr (r:=0) (c:=0) R (by simp))
theorem Sat.Cx (h:Sat K β S st a w) (hs:slot<st.heap.length) (hf:β slot=none) {w':World} {cells:Array Value} {el:TypeId} {rows:List (List Tree)} {size cap:Nat} {g fz:Bool}
  (hh:w'.heap=w.heap.push (.cells cells el (0,0))) (LZ:w'.os=w.os) (we:w'.tape=w.tape) (G9:w'.output=w.output)
  (dY:∀r∈rows,r.length=size) (Ha:rows.length<=cap) (Vh:cap<2^63) (hlen:rows.length<2^60) (Cy:cells.size=cap*size) (Cr:Flat S w rows size (cells.toList.take (rows.length*size))) :
  ∃β' S',(∀b,b≠slot->β' b=β b)/\Sat K β' S' ⟨st.tmps,st.heap.set slot (some (.rows size rows g fz))⟩ a w' /\
   aI β' S' w' (.c (.sl slot 0 rows.length false)) (.slice (some ⟨w.heap.size,0,none⟩) rows.length cap) /\
   (∀x v,aI β S w x v->aI β' S' w' x v):=by
 let R:bZ:=⟨w.heap.size,0,size,cap⟩
 let S':Place:=fun c o=>S c o∨(fz=true/\c=w.heap.size/\o<rows.length*size)
 have Am:∀c o,S c o->S' c o:=fun _ _ hx=>.inl hx
 have hold:∀b o,S b o->w'.cell? ⟨b,o,none⟩=w.cell? ⟨b,o,none⟩:=fun b o hb=>wj hh (h.sT b o hb) o
 have hmul:rows.length*size<=cap*size:=Nat.mul_le_mul_right size Ha;have JO:∀b R',β b=some R'->(if b=slot then some R else β b)=some R':=fun b R' hb=>by rw[if_neg (by rintro rfl;rw[hf]at hb;cases hb)];exact hb
 refine⟨fun b=>if b=slot then some R else β b,S',fun b hb=>if_neg hb,?_,?_,fun x v hr=>hr.mono JO Am hold⟩
 ·refine h.new hs hf (R:=R) hh LZ we G9 rfl Am (fun c o hx=>?_) ⟨rfl,dY,Ha,Vh,hlen,fun o h1 h2=>?_,fun i j t ht=>?_,fun GI o h1 h2=>?_⟩ fun c o hx hy=>?_
  ·rcases hx with hx|⟨_,hx,_⟩
   ·exact .inl hx
   ·exact .inr hx
  ·obtain⟨e1,e2⟩:=jy hh o
   refine⟨?_,e2⟩;have:o<cells.size:=by
    rw[Cy];have IH:o<0+(if g then cap else rows.length)*size:=h2;cases g
    ·simp at IH;omega
    ·simp at IH;omega
   rw[e1,Array.getElem?_eq_getElem this];rfl
  ·obtain⟨v,e1,e2⟩:=Cr.2 i j t ht
   obtain⟨_,_,bJ⟩:=im dY ht;refine⟨v,?_,e2.mono Am hold⟩;rw[List.getElem?_take,if_pos bJ]at e1;rw[show R.co+i*R.ah+j=i*size+j by simp[R],(jy hh _).1];simpa using e1
  ·exact .inr ⟨GI,rfl,by simpa[R]using h2⟩
  ·obtain⟨e1,e2,e3⟩:=hx
   have Vi:c=w.heap.size:=e1;rcases hy with hy|⟨GI,_,bJ⟩
   ·have:=h.sT c o hy;omega
   ·rw[if_pos GI]at e2
    simp only[R,Nat.zero_add]at e2;omega
 ·refine .c (.sl R _ cap (by simp) (by simp) (by simp[R]) Ha (by simp[R]) fun _=>by simp[R])
end
end Go.Abs
end
