/-
  A part of the proof: GabsMem3, GabsMem4, GabsMem5, GabsMem6, GabsMemA, GabsMem7, GabsMem8, GabsCall, GabsCall2, GabsCall3, GabsCall4, GabsCall5, GabsArr, GabsFn, GabsOp, GabsSh, GabsRun, GabsCode, GabsBody, GabsLocal.
-/
import Derived.IntWalk
import Derived.Test.YtekefilngojelaaGreatM5
set_option maxHeartbeats 0
set_option maxRecDepth 100000
set_option linter.unusedVariables false
set_option linter.unusedSimpArgs false
set_option linter.unusedSectionVars false
section
namespace Go.Abs
def dZ (h:bM) (l:List (Nat×Option aU)):bM:=l.foldl (fun h p=>h.set p.1 p.2) h
theorem JC:∀(l:List (Nat×Option aU)) (h:bM),(dZ h l).length=h.length
 | [],_=>rfl
 | p::l,h=>by unfold dZ;rw[List.foldl_cons];have:=JC l (h.set p.1 p.2);unfold dZ at this;rw[this];simp
theorem gZ (p:Nat×Option aU) (l:List (Nat×Option aU)) (h:bM):dZ h (p::l)=dZ (h.set p.1 p.2) l:=rfl
theorem Er (l l':List (Nat×Option aU)) (h:bM):dZ h (l++l')=dZ (dZ h l) l':=by simp[dZ]
theorem xO {h:bM} {b:Nat} (hb:b<h.length) (x:Option aU):look (h.set b x) b=x:=by
 unfold look;rw[List.getElem?_set,if_pos rfl,if_pos hb];rfl
theorem rS {h:bM} {b b':Nat} (cY:b'≠b) (x:Option aU):look (h.set b x) b'=look h b':=by
 unfold look;rw[List.getElem?_set,if_neg (by omega)]
def dT (h h':bM):Prop:=h'.length=h.length/\∀b,look h' b=look h b∨∃sz rows g fz,look h b=some (.rows sz rows g fz)/\look h' b=some (.rows sz rows g true)
theorem dT.refl (h:bM):dT h h:=⟨rfl,fun _=>.inl rfl⟩
section
variable {P:Program} {C:dP} {K:Ctx} {β:Nat->Option bS} {S:Place} {st:St} {a:Act} {w:World} {slot:Nat} {e:bZ} {o:Oper}
theorem Sat.mark (h:Sat K β S st a w) {b:Nat} {sz:Nat} {rows:List (List Tree)} {g fz:Bool} (hb:look st.heap b=some (.rows sz rows g fz)) :
  ∃S',(∀c o,S c o->S' c o)/\Sat K β S' ⟨st.tmps,st.heap.set b (some (.rows sz rows g true))⟩ a w /\
   ∀R,β b=some R->∀o,R.co<=o->o<R.co+rows.length*R.af->S' R.cb o:=by
 obtain⟨R,hR,im,hx,Eo⟩:=h.aR b _ hb;have bH:=rQ hb;obtain⟨h0,h1,h2,h3,UT,h4,h5,h6⟩:=im;have hle:rows.length<=(if g then R.cap else rows.length):=by split<;>omega
 have hmul:=Nat.mul_le_mul_right R.af hle
 let S':Place:=fun c o=>S c o∨(c=R.cb/\R.co<=o/\o<R.co+rows.length*R.af)
 have xM:∀c o,S c o->S' c o:=fun _ _ hx=>.inl hx
 have iv:∀c o,S' c o->S c o∨(aU.rows sz rows g fz).ext R c o:=by
  rintro c o (hs|⟨e1,e2,e3⟩)
  ·exact .inl hs
  ·exact .inr ⟨e1,e2,by omega⟩
 refine⟨S',xM,?_,fun R' gD o e1 e2=>by rw[hR]at gD;cases gD;exact .inr ⟨rfl,e1,e2⟩⟩;refine h.step (Wr:=fun _ _=>False) (fun b'=>b'=b) (eK.refl _ _) (fun _ _ hx=>hx.elim) (fun _ _ hx=>hx) (fun b' R' bK=>by simpa using h.top b' R' bK) xM (fun c o hs=>?_) (fun b' cR hD bK=>?_) (fun b' cR hD bK=>?_)
 ·rcases iv c o hs with hs|hs
  ·exact .inl hs
  ·refine .inr ⟨(hx c o hs).1,(hx c o hs).2,fun b' cR R' hD bK gD hy=>?_⟩
   exact h.kX b b' _ cR R R' (Ne.symm hD) hb bK hR gD c o hs (aU.fb hy)
 ·rw[rS hD]at bK;exact bK
 ·subst hD
  rw[xO bH]at bK;cases bK;refine⟨R,hR,⟨h0,h1,h2,h3,UT,h4,fun i j t ht=>?_,fun _ o e1 e2=>.inr ⟨rfl,e1,e2⟩⟩,hx,fun c o hy hs=>?_,fun Cy gY uU cY iG lH c o hy=>?_⟩
  ·obtain⟨v,e1,e2⟩:=h5 i j t ht
   exact⟨v,e1,e2.mono xM fun _ _ _=>rfl⟩
  ·obtain⟨e1,e2,e3⟩:=hy
   rw[if_pos rfl]at e2;rcases hs with hs|⟨_,_,e6⟩
   ·refine Eo c o ⟨e1,?_,e3⟩ hs
    split<;>omega
   ·omega
  ·rw[rS cY]at iG
   exact h.kX _ _ _ _ R uU (Ne.symm cY) hb iG hR lH c o hy
theorem oM {cur:bM} (h:Sat K β S ⟨st.tmps,cur⟩ a w) (hm:dT st.heap cur) {c:Cell} {v:Value} (hc:dd β S w c v) {t:Tree} {m:List (Nat×Option aU)} (ht:toTree (look st.heap) c=some (t,m)) :
  ∃S',(∀c o,S c o->S' c o)/\Sat K β S' ⟨st.tmps,dZ cur m⟩ a w/\dT st.heap (dZ cur m)/\dF S' w t v:=by
 unfold toTree at ht;split at ht
 ·cases ht
  cases hc with|t hc=>
  exact⟨S,fun _ _ hx=>hx,h,hm,hc⟩
 ·rename_i b off len cp
  split at ht
  ·rename_i sz rows g fz hb
   split at ht
   ·rename_i hle
    cases ht;have Wq:∃Ws,look cur b=some (.rows sz rows g Ws):=by
     rcases hm.2 b with e|⟨ke,dh,g',Ws,e1,e2⟩
     ·exact⟨fz,by rw[e,hb]⟩
     ·rw[hb]at e1;cases e1;exact⟨true,e2⟩
    obtain⟨Ws,bK⟩:=Wq;obtain⟨S',xM,jQ,O6⟩:=h.mark bK;refine⟨S',xM,jQ,⟨by simp[dZ,hm.1],fun b'=>?_⟩,?_⟩
    ·by_cases I3:b'=b
     ·subst I3
      exact .inr ⟨sz,rows,g,fz,hb,by simp only[dZ,List.foldl_cons,List.foldl_nil];exact xO (rQ bK) _⟩
     ·have:look (dZ cur [(b,some (.rows sz rows g true))]) b'=look cur b':=by simp only[dZ,List.foldl_cons,List.foldl_nil];exact rS I3 _
      rw[this];exact hm.2 b'
    ·cases hc with|sl R base cap hR h1 h2 h3 h4 h5=>
     obtain⟨R',e1,e2,_⟩:=h.aR b _ bK;rw[hR]at e1;cases e1;obtain⟨f0,f1,f2,f3,f3',f4,f5,f6⟩:=e2;have hl:((rows.drop off).take len).length=len:=by rw[List.length_take,List.length_drop];omega
     have hex:∃val:Nat->Nat->Value,∀i j t,eJ ((rows.drop off).take len) i j=some t->w.cell? ⟨R.cb,R.co+off*R.af+i*R.af+j,none⟩=some (val i j)/\dF S' w t (val i j):=by
      have:∀i j,∃v,∀t,eJ ((rows.drop off).take len) i j=some t->w.cell? ⟨R.cb,R.co+off*R.af+i*R.af+j,none⟩=some v/\dF S' w t v:=by
       intro i j;cases ht:eJ ((rows.drop off).take len) i j with
       | none=>exact⟨undef,by simp⟩
       | some t=>
        obtain⟨v,a1,a2⟩:=f5 _ _ _ (fS ht).2;refine⟨v,fun t' lQ=>?_⟩;cases lQ;rw[Nat.add_mul,<-Nat.add_assoc]at a1;exact⟨a1,a2.mono xM fun _ _ _=>rfl⟩
      exact⟨fun i j=>(this i j).choose,fun i j t ht=>(this i j).choose_spec t ht⟩
     obtain⟨val,oL⟩:=hex;have EO:∀r∈((rows.drop off).take len),r.length=R.af:=fun r hr=>f1 r (qe hr)
     have iv:∀i j t,eJ ((rows.drop off).take len) i j=some t->S' R.cb (R.co+off*R.af+i*R.af+j):=by
      intro i j t ht;obtain⟨_,_,bH⟩:=gE f1 (fS ht).2;rw[Nat.add_mul]at bH;exact O6 R hR _ (by omega) (by omega)
     generalize ((rows.drop off).take len)=rs at hl oL EO iv ⊢;subst hl;refine .aa cp rs base R.cb (R.co+off*R.af) R.af cap val h3 (by omega) (by omega) h1 (fun cY=>h5 ?_) (fun hb=>?_) EO (fun i j t ht=>⟨iv i j t ht,(oL i j t ht).1⟩) (fun i j t ht=>(oL i j t ht).2)
     ·have:=List.length_pos_iff.2 cY;omega
     ·rcases Nat.eq_zero_or_pos cap with h|h
      ·exact h
      ·have:=h5 h;rw[hb]at this;cases this
   ·cases ht
  ·cases ht
 ·cases ht
theorem fD:∀(cs:List Cell) (vs:List Value) (cur:bM) (S:Place) (ts:List Tree) (m:List (Nat×Option aU)),Sat K β S ⟨st.tmps,cur⟩ a w->dT st.heap cur ->
  vs.length=cs.length->(∀(i:Nat) (c:Cell),cs[i]?=some c->∃v,vs[i]?=some v/\dd β S w c v)->bL (look st.heap) cs=some (ts,m) ->
  ∃S',(∀c o,S c o->S' c o)/\Sat K β S' ⟨st.tmps,dZ cur m⟩ a w/\dT st.heap (dZ cur m)/\ts.length=cs.length/\∀(i:Nat) (t:Tree),ts[i]?=some t->∃v,vs[i]?=some v/\dF S' w t v
 | [],vs,cur,S,ts,m,h,hm,_,_,ht=>by
  simp[bL]at ht;obtain⟨rfl,rfl⟩:=ht;exact⟨S,fun _ _ hx=>hx,h,hm,rfl,by simp⟩
 | c::cs,[],_,_,_,_,_,_,hl,_,_=>by simp at hl
 | c::cs,v::vs,cur,S,ts,m,h,hm,hl,hr,ht=>by
  unfold bL at ht;split at ht
  ·rename_i t m1 xg
   split at ht
   ·rename_i Mt m2 Sf
    cases ht;obtain⟨v',rK,hc⟩:=hr 0 c rfl;simp at rK;subst rK;obtain⟨S1,NQ,Cz,xL,O7⟩:=oM h hm hc xg;obtain⟨S2,NR,Sy,Hh,uW,tg⟩:=fD cs vs _ S1 Mt m2 Cz xL (by simpa using hl) (fun i c hi=>by
     obtain⟨u,e1,e2⟩:=hr (i+1) c (by simpa using hi);exact⟨u,by simpa using e1,e2.mono (fun _ _ hx=>hx) NQ fun _ _ _=>rfl⟩) Sf
    refine⟨S2,fun c o hx=>NR _ _ (NQ _ _ hx),by rw[Er];exact Sy,by rw[Er];exact Hh,by simp[uW],fun i t' hi=>?_⟩;cases i with
    | zero=>simp at hi;subst hi;exact⟨v,rfl,O7.mono NR fun _ _ _=>rfl⟩
    | succ i=>simpa using tg i t' (by simpa using hi)
   ·cases ht
  ·cases ht
def nG (P:Program) (K:Ctx) (β:Nat->Option bS) (S:Place) (st:St) (a:Act) (w:World) (slot:Nat) (o:Oper) (e:bZ):Prop:=
 ∃w' β' S' v nx,(execOp a.eval o).run P w=.ok nx w'/\(nx=.value v∨(nx=.skip/\v=undef))/\(∀b,b≠slot->β' b=β b) /\
  Sat K β' S' ⟨st.tmps,dZ st.heap e.wr⟩ a w'/\aY β' S' w' e.val v
theorem eM.kg (h:Sat K β S st a w) (hq:eM P β S a w o e):nG P K β S st a w slot o e:=by
 obtain⟨h1,v,h2,h3⟩:=hq;exact⟨w,β,S,v,_,h2,.inl rfl,fun _ _=>rfl,by rw[h1];exact h,h3⟩
theorem Mu (hC:bt P C) (h:Sat K β S st a w) (hs:slot<st.heap.length) (hf:β slot=none) {t:TypeId} (ho:o.op=.alloc t)
  (he:evalOp C slot st.get (look st.heap) (.alloc t)=some e):nG P K β S st a w slot o e:=by
 simp only[evalOp]at he;split at he
 ·rename_i ti cB
  cases he;have dB:=iw (hC t ti cB);obtain⟨i,z,h1,h2,h3,h4,_⟩:=qi dB S w β;obtain⟨β',e1,e2,e3⟩:=h.newVar hs hf (w':={ w with heap:=w.heap.push (.cells z.cells t) }) (cells:=z.cells) (el:=t) rfl rfl rfl rfl h4;refine⟨_,β',S,_,_,?_,.inl rfl,e1,e2,e3⟩;simp only[execOp,ho,Instr.alloc,Go.zeroValue,Go.typeInfo,Sem.run_bind,run_program,h1,Result.andThen,Sem.run_pure,h2,newVar,newRow,run_newObj]
 ·cases he
theorem Sz (hC:bt P C) (h:Sat K β S st a w) (hs:slot<st.heap.length) (hf:β slot=none) {t:TypeId} {x:Operand} (ho:o.op=.box t x)
  (he:evalOp C slot st.get (look st.heap) (.box t x)=some e):nG P K β S st a w slot o e:=by
 simp only[evalOp]at he;split at he
 ·rename_i ti cs cB oF
  split at he
  ·cases he
   obtain⟨h1,h2⟩:=(h.get x).Ai oF;obtain⟨β',e1,e2,e3⟩:=h.newVar hs hf (w':={ w with heap:=w.heap.push (.cells (a.eval x).cells t) }) (cells:=(a.eval x).cells) (el:=t) rfl rfl rfl rfl ⟨by simpa using h1,by simpa using h2⟩;refine⟨_,β',S,_,_,?_,.inl rfl,e1,e2,e3⟩;simp only[execOp,ho,Instr.box,Sem.run_bind,Result.andThen,Sem.run_pure,newVar,newRow,run_newObj]
  ·cases he
 ·cases he
theorem Hm (hC:bt P C) (h:Sat K β S st a w) (hs:slot<st.heap.length) (hf:β slot=none) {t:TypeId} {r:Option Operand} (ho:o.op=.makeMap t r)
  (he:evalOp C slot st.get (look st.heap) (.makeMap t r)=some e):nG P K β S st a w slot o e:=by
 simp only[evalOp]at he;split at he
 ·rename_i ti cB
  split at he
  ·rename_i k el hk
   cases he
   let R:bS:=⟨w.heap.size,0,0,0⟩
   refine⟨{ w with heap:=w.heap.push (.map #[] 0) },(fun b=>if b=slot then some R else β b),S,.map (some w.heap.size),.value (.map (some w.heap.size)),?_,.inl rfl,fun b hb=>if_neg hb,?_,.c (.mp R (by simp))⟩
   ·simp only[execOp,ho,Instr.makeMap,Option.map_none,Sem.run_bind,Result.andThen,Sem.run_pure,run_newObj]
   ·refine h.new hs hf (R:=R) rfl rfl rfl rfl rfl (fun _ _ hx=>hx) (fun _ _ hx=>.inl hx) ⟨by have:=h.jh.size;unfold Ctx.B0;simp[R];omega,#[],0,by simp[R],rfl,by simp⟩ fun c o hx hy=>?_
    have e1:c=w.heap.size:=hx.1;have:=h.rH c o hy;omega
  ·cases he
 ·cases he
theorem CA {t:TypeId} {ti:TI} (dB:gA P t ti) (dG:ti.size≠0) (S:Place) (w:World) (n:Nat):∃z:Value,(zeroValue t).run P w=.ok z w/\z.cells.size=ti.size /\
  Flat S w (List.replicate n ti.zero) ti.size (((Array.range (n*ti.size)).map (z.cells[· % z.cells.size]!)).toList):=by
 obtain⟨z,e1,e2,e3,_,_⟩:=dB.zeroValue w S;refine⟨z,e1,e2,by simp,fun i j t' ht=>?_⟩;obtain⟨row,h1,h2,h3,h4⟩:=ij ht;rw[List.length_replicate]at h3;rw[List.getElem?_replicate,if_pos h3]at h1;cases h1;rw[dB.len]at h4;obtain⟨v,hv,hr⟩:=e3 j t' h2;refine⟨v,?_,hr⟩;have bH:i*ti.size+j<n*ti.size:=by
  have:=Nat.mul_le_mul_right ti.size (show i+1<=n by omega);rw[Nat.succ_mul]at this;omega
 have O8:(i*ti.size+j)%ti.size=j:=by rw[Nat.mul_comm,Nat.mul_add_mod,Nat.mod_eq_of_lt h4]
 simp only[Array.toList_map,List.getElem?_map,Array.toList_range,List.getElem?_range bH,Option.map_some,e2,O8];congr 1;have rK:z.cells[j]?=some v:=by simpa using hv
 rw[getElem!_pos z.cells j (by rw[e2];exact h4)];rw[Array.getElem?_eq_getElem (by rw[e2];exact h4)]at rK;cases rK;rfl
theorem Sat.Hn (h:Sat K β S st a w) {b:Nat} {ts:List Tree} (hb:look st.heap b=some (.rows 1 (ts.map fun t=>[t]) true false)) :
  Sat K β S ⟨st.tmps,st.heap.set b (some (.var (ts.map .t)))⟩ a w:=by
 obtain⟨R,hR,im,hx,Eo⟩:=h.aR b _ hb;obtain⟨q0,q1,q2,q3,O9,q4,q5,q6⟩:=im;have bH:=rQ hb;have Pa:∀c o,(aU.var (ts.map .t)).ext R c o->(aU.rows 1 (ts.map fun t=>[t]) true false).ext R c o:=by
  rintro c o ⟨e1,e2,e3⟩
  refine⟨e1,e2,?_⟩;simp only[List.length_map,if_true]at e3 q2 ⊢;rw[<-q0,Nat.mul_one];omega
 refine h.step (Wr:=fun _ _=>False) (fun b'=>b'=b) (eK.refl _ _) (fun _ _ hx=>hx.elim) (fun _ _ hx=>hx) (fun b' R' bK=>by simpa using h.top b' R' bK) (fun _ _ hs=>hs) (fun c o hs=>.inl hs) (fun b' cR hD bK=>by rwa[rS hD]at bK) (fun b' cR hD bK=>?_);subst hD;rw[xO bH]at bK;cases bK;refine⟨R,hR,⟨⟨fun o e1 e2=>?_,q0.symm,q3⟩,fun j c hj=>?_⟩,fun c o hy=>hx c o (Pa c o hy),fun c o hy=>Eo c o ?_,fun b2 Ho R2 cY mc rL c o hy hz=>?_⟩
 ·refine q4 o e1 ?_
  simp only[List.length_map,if_true]at e2 q2 ⊢;rw[<-q0,Nat.mul_one];omega
 ·rw[List.getElem?_map]at hj
  obtain⟨t,ht,rfl⟩:=Option.map_eq_some_iff.1 hj;obtain⟨v,e1,e2⟩:=q5 j 0 t (by unfold eJ;rw[List.getElem?_map,ht];rfl);refine⟨v,?_,.t e2⟩;rw[<-q0,Nat.mul_one,Nat.add_zero]at e1;exact e1
 ·obtain⟨e1,e2,e3⟩:=Pa c o hy
  exact⟨e1,by simpa using e2,e3⟩
 ·rw[rS cY]at mc
  exact h.kX b' b2 _ Ho R R2 (Ne.symm cY) hb mc hR rL c o (Pa c o hy) hz
theorem CB (hC:bt P C) (h:Sat K β S st a w) (hs:slot<st.heap.length) (hf:β slot=none) {t:TypeId} {l c:Operand} (ho:o.op=.makeSlice t l c)
  (he:evalOp C slot st.get (look st.heap) (.makeSlice t l c)=some e):nG P K β S st a w slot o e:=by
 simp only[evalOp]at he;split at he
 ·rename_i ti cB
  have dB:=iw (hC t ti cB);split at he
  ·rename_i el hk
   split at he
   ·rename_i te n m de hn hm
    have dS:=iw (hC _ te de);split at he
    ·rename_i hr
     obtain⟨r1,r2,r3,r4,r5⟩:=hr;obtain⟨k1,JD,_⟩:=(h.get l).int hn;obtain⟨k2,uW,_⟩:=(h.get c).int hm;obtain⟨z,z1,z2,z3⟩:=CA dS r5 S w m.toNat;obtain⟨i,i1,i2,_⟩:=dS.typeInfo w;have hmb:m<=(aF:Int):=by
      have h1:m*1<=m*(te.bytes:Int):=Int.mul_le_mul_of_nonneg_left (by omega) (by omega);omega
     unfold aF at hmb r3;have EN:n.toNat<=m.toNat:=by omega
     have hwn:IntKind.i64.wrap n=n:=IntWalk.i64_in n (by omega);have hwm:IntKind.i64.wrap m=m:=IntWalk.i64_in m (by omega)
     let cells:Array Value:=(Array.range (m.toNat*te.size)).map (z.cells[· % z.cells.size]!)
     have Aj:Flat S w (List.replicate n.toNat te.zero) te.size (cells.toList.take ((List.replicate n.toNat te.zero).length*te.size)):=by
      have hmul:=Nat.mul_le_mul_right te.size EN;refine⟨by rw[List.length_take,List.length_replicate,Nat.min_eq_left (by simp[cells];exact hmul)],fun i j t ht=>?_⟩;have iv:=gE (size:=te.size) (fun r hr=>by rw[(List.mem_replicate.1 hr).2];exact dS.len) ht;obtain⟨v,e1,e2⟩:=z3.2 i j t (by
       obtain⟨row,h1,h2,h3,h4⟩:=ij ht;rw[List.length_replicate]at h3;rw[List.getElem?_replicate,if_pos h3]at h1;exact Eg (by rw[List.getElem?_replicate,if_pos (by omega)];exact h1) h2)
      exact⟨v,by rw[List.getElem?_take,if_pos iv.2.2];exact e1,e2⟩
     obtain⟨β',S',e1,e2,e3,e4⟩:=h.Ao hs hf (w':={ w with heap:=w.heap.push (.cells cells el) }) (cells:=cells) (el:=el) (rows:=List.replicate n.toNat te.zero) (size:=te.size) (cap:=m.toNat) (g:=true) (fz:=false) rfl rfl rfl rfl
      (fun r hr=>by rw[(List.mem_replicate.1 hr).2];exact dS.len) (by simp;omega) (by omega) (by simp;omega) (by simp[cells]) Aj
     rw[List.length_replicate]at e3;have cL:(execOp a.eval o).run P w=.ok (.value (.slice (some ⟨w.heap.size,0,none⟩) n.toNat m.toNat)) { w with heap:=w.heap.push (.cells cells el) }:=by
      have lI:¬(((m<0∨(te.bytes:Int)*m>2^48)∨n<0)∨n>m):=by
       have:=Int.mul_comm (te.bytes:Int) m;omega
      simp only[execOp,ho,Instr.makeSlice,run_underlying (dB.slice hk),Sem.run_bind,Result.andThen,JD,uW,asInt,asIntOf,Sem.run_pure,i1,i2,hwn,hwm,Sem.run_ite,run_askRoom,dS.sizeOf,newRow,run_newObj];rw[if_neg (by simpa[Bool.or_eq_true]using lI)]
      by_cases h0:m.toNat*te.size=0
      ·have xh:m.toNat=0:=by
        rcases Nat.mul_eq_zero.1 h0 with h|h
        ·exact h
        ·exact absurd h r5
       simp[h0,cells,xh,Array.range_zero']
      ·simp[h0,cells,z1]
     split at he
     ·rename_i z0 oF Hq
      cases he;have Wt:te.size=1:=by rw[<-dS.len,Hq];rfl
      have iR:List.replicate n.toNat [z0]=(List.replicate n.toNat z0).map fun t=>[t]:=by rw[List.map_replicate]
      rw[Hq,Wt,iR]at e2;have e5:=Sat.Hn e2 (b:=slot) (ts:=List.replicate n.toNat z0) (xO hs _);simp only[List.set_set]at e5;rw[show(List.replicate n.toNat z0).map Cell.t=List.replicate n.toNat (.t z0) from List.map_replicate]at e5;exact⟨_,β',S',_,_,cL,.inl rfl,e1,e5,e3⟩
     ·cases he
      exact⟨_,β',S',_,_,cL,.inl rfl,e1,e2,e3⟩
    ·cases he
   ·cases he
  ·cases he
 ·cases he
end
theorem Aq (w:World) (b o:Nat) (v:Value):eK (fun c o'=>c=b/\o'=o) w (w.setCell ⟨b,o,none⟩ v):=by
 refine⟨rfl,rfl,rfl,by simp[World.setCell],fun k ob hk=>?_⟩;simp only[World.setCell,Array.getElem?_modify]
 by_cases hb:b=k
 ·subst hb
  rw[if_pos rfl,hk];cases ob with
  | cells c el fr=>
   refine⟨c.setIfInBounds o v,rfl,by simp,fun i hi=>?_⟩;rw[Array.getElem?_setIfInBounds,if_neg (by rintro rfl;exact hi ⟨rfl,rfl⟩)]
  | map es cl=>exact⟨es,cl,rfl,fun _=>⟨rfl,rfl⟩⟩
  | _=>rfl
 ·rw[if_neg hb,hk]
  exact fk.refl _ _ _
theorem gN (b:Nat):∀(vs:List Value) (lo:Nat) (w:World),eK (fun c o=>c=b/\lo<=o/\o<lo+vs.length) w (w.setCells b lo vs)
 | [],lo,w=>eK.refl _ _
 | v::vs,lo,w=>by
  have h1:=(Aq w b lo v).mono (W':=fun c o=>c=b/\lo<=o/\o<lo+(v::vs).length) fun c o _ hx=>⟨hx.1,by omega,by simp;omega⟩
  exact h1.trans (gN b vs (lo+1) _) fun c o _ hx=>⟨hx.1,by omega,by simp;omega⟩
theorem SA (b:Nat):∀(vs:List Value) (lo:Nat) (w:World),(w.setCells b lo vs).heap.size=w.heap.size
 | [],_,_=>rfl
 | v::vs,lo,w=>by rw[World.setCells,SA b vs];simp[World.setCell]
section
variable {P:Program} {C:dP} {K:Ctx} {β:Nat->Option bS} {S:Place} {st:St} {a:Act} {w:World} {slot:Nat} {e:bZ} {o:Oper}
theorem Q9 {w:World} {cb co n:Nat} (h:there w cb co n) {b lo:Nat} {vs:List Value} (iv:∀j,j<vs.length->(w.cell? ⟨b,lo+j,none⟩).isSome=true):there (w.setCells b lo vs) cb co n:=by
 intro o h1 h2;obtain⟨e1,e2⟩:=h o h1 h2;rw[World.frozen?_setCells];refine⟨?_,e2⟩
 by_cases hx:cb=b/\lo<=o/\o<lo+vs.length
 ·obtain⟨rfl,h3,h4⟩:=hx
  have:=World.cell?_setCells_in cb vs lo w iv (o-lo) (by omega);rw[show lo+(o-lo)=o by omega]at this;rw[this];rfl
 ·rw[World.cell?_setCells_out b vs lo w ⟨cb,o,none⟩ (fun e _=>by
   have:cb=b:=e;show o<lo∨lo+vs.length<=o
   omega)]
  exact e1
theorem Sat.write (h:Sat K β S st a w) {b:Nat} {aR cR:aU} {R:bS} (hb:look st.heap b=some aR) (hR:β b=some R) (lo:Nat) (vs:List Value)
  (iv:∀j,j<vs.length->aR.wr R R.cb (lo+j)) (Ar:∀c o,cR.ext R c o->aR.ext R c o) (Eo:∀c o,cR.wr R c o->aR.wr R c o)
  (im:dR β S (w.setCells R.cb lo vs) K.B0 R cR):Sat K β S ⟨st.tmps,st.heap.set b (some cR)⟩ a (w.setCells R.cb lo vs):=by
 obtain⟨R',gD,_,hx,hw⟩:=h.aR b _ hb;rw[hR]at gD;cases gD;have bH:=rQ hb;have JE:∀c o,(c=R.cb/\lo<=o/\o<lo+vs.length)->aR.wr R c o:=by
  rintro c o ⟨rfl,h1,h2⟩
  have:=iv (o-lo) (by omega);rwa[show lo+(o-lo)=o by omega]at this
 refine h.step (fun b'=>b'=b) (gN R.cb vs lo w) (fun c o hc bH=>⟨hw c o (JE c o hc),(hx c o (aU.fb (JE c o hc))).2,fun b' gY uU hD bK lH hy=>?_⟩) (fun _ _ hx=>hx) (fun b' R' bK=>by simpa using h.top b' R' bK) (fun _ _ hx=>hx) (fun c o hs=>.inl hs) (fun b' gY hD bK=>?_) (fun b' gY hD bK=>?_)
 ·exact h.kX b b' _ gY R uU (Ne.symm hD) hb bK hR lH c o (aU.fb (JE c o hc)) hy
 ·rw[rS hD]at bK;exact bK
 ·subst hD
  rw[xO bH]at bK;cases bK;refine⟨R,hR,im,fun c o hy=>?_,fun c o hy=>hw c o (Eo c o hy),fun Cy gY uU cY iG lH c o hy=>?_⟩
  ·rw[SA];exact hx c o (Ar c o hy)
  ·rw[rS cY]at iG
   exact h.kX _ _ _ _ R uU (Ne.symm cY) hb iG hR lH c o (Ar c o hy)
theorem As {t:TypeId} {ti:TI} (dB:gA P t ti) {v:Value} (dG:v.cells.toList.length=ti.size) (He:∀u∈v.cells.toList,one u) {cb co:Nat} (uh:there w cb co ti.size) :
  (storeVar t ⟨cb,co,none⟩ v).run P w=.ok () (w.setCells cb co v.cells.toList):=by
 have hs:=run_storeCells_cells (P:=P) cb co v.cells.toList 0 w (fun j hj=>(uh (co+0+j) (by omega) (by omega)).1) (fun j hj=>(uh (co+0+j) (by omega) (by omega)).2) (fun u hu=>gV (He u hu));simp only[Nat.add_zero]at hs;simp only[storeVar,Sem.run_bind,dB.sizeOf,Result.andThen];rw[if_neg (by simpa using dG)];exact hs
theorem fE {b lo:Nat} {vs:List Value} (iv:∀j,j<vs.length->(w.cell? ⟨b,lo+j,none⟩).isSome=true) {k:Nat} (h1:lo<=k) (h2:k<lo+vs.length) {v:Value} (hv:vs[k-lo]?=some v) :
  (w.setCells b lo vs).cell? ⟨b,k,none⟩=some v:=by
 have:=World.cell?_setCells_in b vs lo w iv (k-lo) (by omega);rw[show lo+(k-lo)=k by omega]at this;rw[this,<-List.getElem?_eq_getElem];exact hv
theorem Pb {b lo:Nat} {vs:List Value} {c k:Nat} (h:¬(c=b/\lo<=k/\k<lo+vs.length)):(w.setCells b lo vs).cell? ⟨c,k,none⟩=w.cell? ⟨c,k,none⟩:=
 World.cell?_setCells_out b vs lo w ⟨c,k,none⟩ fun e _=>by
  have:c=b:=e;show k<lo∨lo+vs.length<=k
  omega
theorem Sat.dN (h:Sat K β S st a w) {b:Nat} {aR:aU} {R:bS} (hb:look st.heap b=some aR) (hR:β b=some R) {lo:Nat} {vs:List Value} (iv:∀j,j<vs.length->aR.wr R R.cb (lo+j)) :
  ∀c o,S c o->(w.setCells R.cb lo vs).cell? ⟨c,o,none⟩=w.cell? ⟨c,o,none⟩:=by
 obtain⟨R',gD,_,hx,hw⟩:=h.aR b _ hb;rw[hR]at gD;cases gD;intro c o hs;refine Pb fun hx=>?_
 obtain⟨rfl,h1,h2⟩:=hx;have:=iv (o-lo) (by omega);rw[show lo+(o-lo)=o by omega]at this;exact hw _ _ this hs
theorem Mv (hC:bt P C) (h:Sat K β S st a w) {t:TypeId} {x y:Operand} (ho:o.op=.store t x y)
  (he:evalOp C slot st.get (look st.heap) (.store t x y)=some e):nG P K β S st a w slot o e:=by
 simp only[evalOp]at he;have hx:=h.get x;have hy:=h.get y;split at he
 ·rename_i ti cs cB oF
  have dB:=iw (hC t ti cB);obtain⟨JD,uW⟩:=hy.Ai oF;split at he
  ·rename_i dG
   have He:∀u∈(a.eval y).cells.toList,one u:=by
    intro u hu;obtain⟨i,hi⟩:=List.getElem?_of_mem hu;have bH:=ta hi;obtain⟨u',e1,e2⟩:=uW i (cs[i]'(by omega)) (List.getElem?_eq_getElem _);rw[hi]at e1;cases e1;exact e2.one
   split at he
   ·rename_i b r c hg
    rw[hg]at hx;cases hx with|c hx=>
    generalize dW:a.eval x=av at hx;cases hx with|ptr R hR=>
    have cL:∀co,there w R.cb co ti.size->a.eval x=.pointer (some ⟨R.cb,co,none⟩)->(execOp a.eval o).run P w=.ok .skip (w.setCells R.cb co (a.eval y).cells.toList):=by
     intro co uh Vf;simp only[execOp,ho,Instr.storeAt,Vf,Instr.sureAddr,Sem.run_bind,Sem.run_pure,Result.andThen,As dB (by omega) He uh]
    split at he
    ·rename_i cells hb
     split at he
     ·rename_i hr
      obtain⟨rfl,hle⟩:=hr;cases he;obtain⟨R',e1,⟨⟨e2,e2s⟩,e3⟩,e4,e5⟩:=h.aR b _ hb;rw[hR]at e1;cases e1;rw[show R.co+0*R.af+c=R.co+c by omega]at dW;have uh:there w R.cb (R.co+c) ti.size:=fun o h1 h2=>e2 o (by omega) (by omega)
      have iv:∀j,j<(a.eval y).cells.toList.length->(aU.var cells).wr R R.cb (R.co+c+j):=fun j hj=>⟨rfl,by omega,by omega⟩
      have hex:∀j,j<(a.eval y).cells.toList.length->(w.cell? ⟨R.cb,R.co+c+j,none⟩).isSome=true:=fun j hj=>(uh _ (by omega) (by omega)).1
      have hlen:=O4 cells cs c hle;have xP:=h.dN hb hR iv;refine⟨_,β,S,undef,.skip,cL _ uh dW,.inr ⟨rfl,rfl⟩,fun _ _=>rfl,?_,.aj _⟩;refine h.write hb hR _ _ iv (fun c o hy=>by rw[aU.ext,hlen]at hy;exact hy) (fun c o hy=>by rw[aU.wr,hlen]at hy;exact hy) ⟨⟨?_,e2s⟩,fun j y hj=>?_⟩
      ·rw[hlen];exact Q9 e2 hex
      ·rw[Mr _ _ _ _ hle]at hj
       split at hj
       ·rename_i hjr
        obtain⟨u,f1,f2⟩:=uW _ _ hj;exact⟨u,fE hex (by omega) (by omega) (by rw[show R.co+j-(R.co+c)=j-c by omega];exact f1),f2.mono (fun _ _ hx=>hx) (fun _ _ hx=>hx) xP⟩
       ·rename_i hjr
        obtain⟨u,f1,f2⟩:=e3 _ _ hj;exact⟨u,by rw[Pb (by omega)];exact f1,f2.mono (fun _ _ hx=>hx) (fun _ _ hx=>hx) xP⟩
     ·cases he
    ·rename_i sz rows g hb
     split at he
     ·rename_i row ts m dv tg
      split at he
      ·rename_i hr
       obtain⟨hle,Ra⟩:=hr;cases he;obtain⟨S1,NQ,Cz,xL,adR,Wu⟩:=fD cs (a.eval y).cells.toList st.heap S ts m h (dT.refl _) (by omega) uW tg;have tX:look (dZ st.heap m) b=some (.rows sz rows g false):=by
        have:∀(m:List (Nat×Option aU)) (h0:bM),(ids m).contains b=false->look (dZ h0 m) b=look h0 b:=by
         intro m
         induction m with
         | nil=>intro h0 _;rfl
         | cons p m ih=>
          intro h0 hc;simp only[ids,List.map_cons,List.contains_cons,Bool.or_eq_false_iff]at hc;rw[gZ,ih _ (by simpa[ids]using hc.2),rS (by simpa using hc.1)]
        rw[this m st.heap (by simpa using Ra)];exact hb
       obtain⟨R',e1,⟨e2',e2,e3,e4,SB,e5,e6,e7⟩,e8,e9⟩:=Cz.aR b _ tX;rw[hR]at e1;cases e1;have xi:row.length=R.af:=e2 row (List.mem_of_getElem? dv);have adT:=ta dv;have hmul:(r+1)*R.af<=rows.length*R.af:=Nat.mul_le_mul_right _ (by omega);rw[Nat.succ_mul]at hmul;have aay:rows.length*R.af<=(if g then R.cap else rows.length)*R.af:=Nat.mul_le_mul_right _ (by split<;>omega)
       have uh:there w R.cb (R.co+r*R.af+c) ti.size:=fun o h1 h2=>e5 o (by omega) (by omega)
       have iv:∀j,j<(a.eval y).cells.toList.length->(aU.rows sz rows g false).wr R R.cb (R.co+r*R.af+c+j):=fun j hj=>⟨rfl,by simp;omega,by omega⟩
       have hex:∀j,j<(a.eval y).cells.toList.length->(w.cell? ⟨R.cb,R.co+r*R.af+c+j,none⟩).isSome=true:=fun j hj=>(uh _ (by omega) (by omega)).1
       have xP:=Cz.dN tX hR iv;have hlen:(rows.set r (bG row c ts)).length=rows.length:=by simp
       have iF:∀i j t,eJ (rows.set r (bG row c ts)) i j=some t->(i=r/\c<=j/\j<c+ts.length/\ts[j-c]?=some t)∨(eJ rows i j=some t/\¬(i=r/\c<=j/\j<c+ts.length)):=by
        intro i j t ht;obtain⟨adU,q1,q2,q3,q4⟩:=ij ht;rw[List.getElem?_set]at q1;split at q1
        ·rename_i Wv
         subst Wv;cases q1;rw[Mr _ _ _ _ hle]at q2;split at q2
         ·rename_i Vg;exact .inl ⟨rfl,Vg.1,Vg.2,q2⟩
         ·rename_i Vg;exact .inr ⟨Eg dv q2,fun hx=>Vg hx.2⟩
        ·rename_i Wv
         exact .inr ⟨Eg q1 q2,fun hx=>Wv hx.1.symm⟩
       refine⟨_,β,S1,undef,.skip,cL _ uh dW,.inr ⟨rfl,rfl⟩,fun _ _=>rfl,?_,.aj _⟩;rw[Er];refine Cz.write tX hR _ _ iv (fun c o hy=>by rw[aU.ext,hlen]at hy;exact hy) (fun c o hy=>by rw[aU.wr,hlen]at hy;exact hy) ⟨e2',fun r' EL=>?_,by rw[hlen];exact e3,e4,by rw[hlen];exact SB,?_,fun i j t' ht=>?_,by simp⟩
       ·rcases List.mem_or_eq_of_mem_set EL with h1|h1
        ·exact e2 r' h1
        ·rw[h1,O4 _ _ _ hle];exact xi
       ·rw[hlen];exact Q9 e5 hex
       ·rcases iF i j t' ht with⟨rfl,q1,q2,q3⟩|⟨q1,q2⟩
        ·obtain⟨u,f1,f2⟩:=Wu _ _ q3
         exact⟨u,fE hex (by omega) (by omega) (by rw[show R.co+i*R.af+j-(R.co+i*R.af+c)=j-c by omega];exact f1),f2.mono (fun _ _ hx=>hx) xP⟩
        ·obtain⟨u,f1,f2⟩:=e6 _ _ _ q1
         refine⟨u,?_,f2.mono (fun _ _ hx=>hx) xP⟩;rw[Pb]
         ·exact f1
         ·rintro⟨_,h3,h4⟩
          obtain⟨_,hj,_⟩:=gE e2 q1;have hir:i=r:=by
           rcases Nat.lt_trichotomy i r with h5|h5|h5
           ·have:=Nat.mul_le_mul_right R.af (show i+1<=r by omega)
            rw[Nat.succ_mul]at this;omega
           ·exact h5
           ·have:=Nat.mul_le_mul_right R.af (show r+1<=i by omega)
            rw[Nat.succ_mul]at this;omega
          subst hir;exact q2 ⟨rfl,by omega,by omega⟩
      ·cases he
     ·cases he
    ·cases he
   ·cases he
  ·cases he
 ·cases he
end
section
variable {P:Program} {C:dP} {K:Ctx} {β:Nat->Option bS} {S:Place} {st:St} {a:Act} {w:World} {slot:Nat} {e:bZ} {o:Oper}
theorem Sat.drawn (h:Sat K β S st a w) (d:Nat):Sat K β S st a { w with drawn:=d }:=by
 have hk:eK (fun _ _=>False) w { w with drawn:=d }:=⟨rfl,rfl,rfl,Nat.le_refl _,fun k ob hk=>by show fk _ k ob (w.heap[k]?);rw[hk];exact fk.refl _ _ _⟩;exact h.step (fun _=>False) hk (fun _ _ hx=>hx.elim) (fun _ _ hx=>hx) h.top (fun _ _ hx=>hx) (fun _ _ hx=>.inl hx) (fun _ _ _ hx=>hx) (fun _ _ hx=>hx.elim)
theorem aY.drawn {x:AV} {v:Value} (h:aY β S w x v) (d:Nat):aY β S { w with drawn:=d } x v:=h.mono (fun _ _ hx=>hx) (fun _ _ hx=>hx) (fun _ _ _=>rfl)
theorem Flat.mono {S S':Place} {w w':World} {rows:List (List Tree)} {size:Nat} {vs:List Value} (h:Flat S w rows size vs) (hS:∀b o,S b o->S' b o)
  (hw:∀b o,S b o->w'.cell? ⟨b,o,none⟩=w.cell? ⟨b,o,none⟩):Flat S' w' rows size vs:=
 ⟨h.1,fun i j t ht=>by obtain⟨v,e1,e2⟩:=h.2 i j t ht;exact⟨v,e1,e2.mono hS hw⟩⟩
theorem uX {α:Type} {r1 r2:List (List α)} {i j:Nat} {t:α} (h:eJ (r1++r2) i j=some t):(i<r1.length/\eJ r1 i j=some t)∨(r1.length<=i/\eJ r2 (i-r1.length) j=some t):=by
 unfold eJ at h ⊢;rw[List.getElem?_append]at h;split at h
 ·exact .inl ⟨by assumption,h⟩
 ·exact .inr ⟨by omega,h⟩
theorem Flat.append {S:Place} {w:World} {r1 r2:List (List Tree)} {size:Nat} {v1 v2:List Value} (h1:Flat S w r1 size v1) (h2:Flat S w r2 size v2) (ji:∀r∈r1,r.length=size):Flat S w (r1++r2) size (v1++v2):=by
 refine⟨by rw[List.length_append,List.length_append,h1.1,h2.1,Nat.add_mul],fun i j t ht=>?_⟩;rcases uX ht with⟨hi,ht⟩|⟨hi,ht⟩
 ·obtain⟨v,e1,e2⟩:=h1.2 i j t ht
  exact⟨v,by rw[List.getElem?_append,if_pos (ta e1)];exact e1,e2⟩
 ·obtain⟨v,e1,e2⟩:=h2.2 _ j t ht
  have:i*size=r1.length*size+(i-r1.length)*size:=by rw[<-Nat.add_mul];congr 1;omega
  refine⟨v,?_,e2⟩;rw[List.getElem?_append,if_neg (by rw[h1.1];omega),h1.1,show i*size+j-r1.length*size=(i-r1.length)*size+j by omega];exact e1
structure ui (P:Program) (argTypes:Array TypeId) (el:TypeId):Prop where
 t0:∃t,argTypes[0]?=some t/\P.underlying t=some (.slice el)
 t1:∃t,argTypes[1]?=some t/\((∃e',P.underlying t=some (.slice e'))∨P.underlying t=some .string)
theorem Vh {argTypes:Array TypeId} {ty el:TypeId} {te:TI} (ha:ui P argTypes el) (dB:gA P el te) {base:Option Addr} {eo kh n:Nat} {xv:Value} {vs:List Value}
  (hlen:(Builtin.lenOf xv).run P w=.ok n w) (Ap:(Builtin.firstCells te.size n xv).run P w=.ok vs.toArray w) (jP:eo+n<=kh)
  {w':World} (dC:(match base with|some ad=>(storeCells (ad.add (eo*te.size)) vs).run P w|none=>.ok () w)=.ok () w') :
  (Builtin.append_ argTypes ty #[.slice base eo kh,xv]).run P w=.ok (.slice base (eo+n) kh) w':=by
 obtain⟨t,ht,hu⟩:=ha.t0;obtain⟨t1,xg,nf⟩:=ha.t1;cases base with
 | none=>
  simp only at dC;cases dC;rcases nf with⟨e',nf⟩|nf <;>
  simp[Builtin.append_,ht,xg,run_underlying hu,run_underlying nf,Result.andThen,dB.sizeOf,hlen,Ap,jP]
 | some ad=>
  simp only at dC;rcases nf with⟨e',nf⟩|nf <;>
  simp[Builtin.append_,ht,xg,run_underlying hu,run_underlying nf,Result.andThen,dB.sizeOf,hlen,Ap,jP,dC]
theorem jR {argTypes : Array TypeId} {ty el : TypeId} {te : TI} (ha : ui P argTypes el) (dB : gA P el te) (hb : te.bytes≠0) {base : Option Addr} {eo kh n : Nat} {xv : Value}
    (hlen : (Builtin.lenOf xv).run P w = .ok n w) (JF : kh<eo + n) (lI : (eo + n) * te.bytes <= 140737488355328) :
    ∃d kj, eo + n <= kj /\ kj<2^63 /\ ∀fR vs : List Value,
      ((Builtin.firstCells te.size eo (.slice base eo kh)).run P { w with drawn := d } = .ok fR.toArray { w with drawn := d } ->
       (Builtin.firstCells te.size n xv).run P { w with drawn := d } = .ok vs.toArray { w with drawn := d } ->
       ∃rest : Array Value, rest.size = (kj-(eo + n)) * te.size /\
        (Builtin.append_ argTypes ty #[.slice base eo kh, xv]).run P w = .ok (.slice (some ⟨w.heap.size, 0, none⟩) (eo + n) kj) { w with drawn := d, heap := w.heap.push (.cells (fR.toArray++vs.toArray++rest) el) }) := by
  obtain⟨t, ht, hu⟩ := ha.t0;obtain⟨t1, xg, nf⟩ := ha.t1;obtain⟨i, i1, i2, i3⟩ := dB.typeInfo w;have hn : eo + n<2^63 := by
    have := Nat.mul_le_mul_left (eo + n) (show 1 <= te.bytes by omega);omega
  have Ra := growslice_fits JF lI
  let tape := w.tape w.drawn (.appendCap (eo + n) kh el)
  refine⟨w.drawn + 1, (eo + n) + tape%(2^63-(eo + n)), by omega, ?_, fun fR vs h1 h2=> ?_⟩
  · have := Nat.mod_lt tape (show 0<2^63-(eo + n) by omega)
    omega
  · obtain⟨z, z1, z2, _⟩ := dB.zeroValue { w with drawn := w.drawn + 1 } (fun _ _=> False)
    refine⟨Builtin.zeroCells z.cells ((eo + n) + tape%(2^63-(eo + n))-(eo + n)), by simp[Builtin.zeroCells, z2], ?_⟩;have hi : (typeInfo el).run P { w with drawn := w.drawn + 1 } = .ok i { w with drawn := w.drawn + 1 } := by
      obtain⟨i', j1, _⟩ := dB.info;simp only[Go.typeInfo, Sem.run_bind, run_program, Result.andThen, j1, Sem.run_pure]at i1 ⊢;cases i1;rfl
    have Ww : ¬((IntKind.i64.max<((eo + n : Nat) : Int)) /\ te.bytes = 0) := fun hx=> hb hx.2
    rcases nf with⟨e', nf⟩|nf
    all_goals
      simp only[Builtin.append_, ht, xg, run_underlying hu, run_underlying nf, Sem.run_bind, Sem.run_pure, Result.andThen, dB.sizeOf, hlen, List.getElem?_toArray, List.getElem?_cons_zero, List.getElem?_cons_succ, Bool.false_eq_true, if_false, Sem.run_ite];rw[if_neg (by omega)];simp only[i1, i2, Result.andThen, Sem.run_bind, Sem.run_pure, Sem.run_ite, false_or];rw[if_neg (by simpa using Ww), if_neg (by omega)]
      simp only[run_choose, Question.forced, Question.cut, Bool.false_eq_true, if_false, run_askRoom, hi, h1, h2, z1, newRow, run_newObj, Sem.run_bind, Sem.run_pure, Result.andThen, Bool.not_false, if_true];rfl
end
section
variable {P:Program} {C:dP} {K:Ctx} {β:Nat->Option bS} {S:Place} {st:St} {a:Act} {w:World} {slot:Nat} {e:bZ} {o:Oper}
theorem Sat.kill (h:Sat K β S st a w) (b:Nat):Sat K β S ⟨st.tmps,st.heap.set b none⟩ a w:=by
 refine h.step (Wr:=fun _ _=>False) (fun b'=>b'=b) (eK.refl _ _) (fun _ _ hx=>hx.elim) (fun _ _ hx=>hx) (fun b' R' bK=>by simpa using h.top b' R' bK) (fun _ _ hx=>hx) (fun _ _ hx=>.inl hx) (fun b' aR hD bK=>?_) (fun b' aR hD bK=>?_)
 ·rw[rS hD]at bK;exact bK
 ·subst hD
  have bH:=rQ bK;rw[xO (by simpa using bH)]at bK;cases bK
theorem Sat.grow (h:Sat K β S st a w) {b off sz:Nat} {rows new:List (List Tree)} {fz:Bool} {R:bS} (hb:look st.heap b=some (.rows sz rows true fz)) (hR:β b=some R) (hs:slot<st.heap.length) (hf:β slot=none)
  (Wx:off<=rows.length) (jP:rows.length+new.length<=R.cap) (dG:∀r∈new,r.length=sz) (hlen:rows.length-off+new.length<2^60) {vs:List Value} (Aj:Flat S w new sz vs) :
  ∃β' S',(∀b',b'≠slot->β' b'=β b')/\Sat K β' S' ⟨st.tmps,(st.heap.set b none).set slot (some (.rows sz (rows.drop off++new) true fz))⟩ a (w.setCells R.cb (R.co+rows.length*R.af) vs) /\
   β' slot=some ⟨R.cb,R.co+off*R.af,R.af,R.cap-off⟩/\(∀c o,S c o->S' c o):=by
 have uT:b≠slot:=by rintro rfl;rw[hR]at hf;cases hf
 obtain⟨R0,Gq,⟨h0,h1,h2,h3,UT,h4,h5,h6⟩,hx,Eo⟩:=h.aR b _ hb;rw[hR]at Gq;cases Gq;subst h0;simp only[if_true]at h4
 let R':bS:=⟨R.cb,R.co+off*R.af,R.af,R.cap-off⟩
 let β':Nat->Option bS:=fun b'=>if b'=slot then some R' else β b'
 let S':Place:=fun c o=>S c o∨(fz=true/\c=R.cb/\R'.co<=o/\o<R'.co+(rows.drop off++new).length*R.af)
 have xM:∀c o,S c o->S' c o:=fun _ _ hx=>.inl hx
 have kZ:(rows.drop off++new).length=rows.length-off+new.length:=by simp
 have Vi:vs.length=new.length*R.af:=Aj.1;have xL:(rows.length+new.length)*R.af<=R.cap*R.af:=Nat.mul_le_mul_right _ jP;have adW:(rows.length+new.length)*R.af=rows.length*R.af+new.length*R.af:=Nat.add_mul _ _ _;have Hh:off*R.af<=rows.length*R.af:=Nat.mul_le_mul_right _ Wx;have hm3:(rows.drop off++new).length*R.af+off*R.af=rows.length*R.af+new.length*R.af:=by
  rw[<-Nat.add_mul,<-Nat.add_mul];congr 1;omega
 have hm4:(R.cap-off)*R.af+off*R.af=R.cap*R.af:=by rw[<-Nat.add_mul];congr 1;omega
 have iv:∀j,j<vs.length->(aU.rows R.af rows true fz).wr R R.cb (R.co+rows.length*R.af+j):=fun j hj=>⟨rfl,by split<;>omega,by simp only[if_true];omega⟩
 have hex:∀j,j<vs.length->(w.cell? ⟨R.cb,R.co+rows.length*R.af+j,none⟩).isSome=true:=fun j hj=>(h4 _ (by omega) (by omega)).1
 have xP:=h.dN hb hR iv;have Hl:∀b' R1,β b'=some R1->β' b'=some R1:=fun b' R1 bK=>by
  have:b'≠slot:=by rintro rfl;rw[hf]at bK;cases bK
  simp only[β',if_neg this];exact bK
 have mb:∀b',b'≠slot->b'≠b->look ((st.heap.set b none).set slot (some (.rows R.af (rows.drop off++new) true fz))) b'=look st.heap b':=fun b' e1 e2=>by
  rw[rS e1,rS e2]
 have uY:look ((st.heap.set b none).set slot (some (.rows R.af (rows.drop off++new) true fz))) b=none:=by
  rw[rS uT,xO (rQ hb)]
 have EV:∀c o,(c=R.cb/\R.co+rows.length*R.af<=o/\o<R.co+rows.length*R.af+vs.length)->(aU.rows R.af rows true fz).wr R c o:=by
  rintro c o ⟨rfl,e1,e2⟩
  have:=iv (o-(R.co+rows.length*R.af)) (by omega);rwa[show R.co+rows.length*R.af+(o-(R.co+rows.length*R.af))=o by omega]at this
 refine⟨β',S',fun b' bK=>if_neg bK,?_,by simp[β',R'],xM⟩;refine h.step (fun b'=>b'=b∨b'=slot) (gN R.cb vs _ w) (fun c o hc bH=>⟨Eo c o (EV c o hc),(hx c o (aU.fb (EV c o hc))).2,fun b' aR R1 hD bK I4 hy=>?_⟩) Hl (fun b' R1 bK=>?_) xM (fun c o rM=>?_) (fun b' aR hD bK=>?_) (fun b' aR hD bK=>?_)
 ·exact h.kX b b' _ aR R R1 (fun e=>hD (.inl e.symm)) hb bK hR I4 c o (aU.fb (EV c o hc)) hy
 ·simp only[List.length_set]
  by_cases Pc:b'=slot
  ·omega
  ·simp only[β',if_neg Pc]at bK;exact h.top b' R1 bK
 ·rcases rM with rM|⟨_,rfl,e1,e2⟩
  ·exact .inl rM
  ·have SC:(aU.rows R.af rows true fz).ext R R.cb o:=⟨rfl,by simp only[R']at e1;omega,by simp only[R',if_true]at e1 e2 ⊢;omega⟩
   refine .inr ⟨by rw[SA];exact(hx _ _ SC).1,(hx _ _ SC).2,fun b' aR R1 hD bK I4 hy=>?_⟩;exact h.kX b b' _ aR R R1 (fun e=>hD (.inl e.symm)) hb bK hR I4 _ o SC (aU.fb hy)
 ·rw[mb b' (fun e=>hD (.inr e)) (fun e=>hD (.inl e))]at bK;exact bK
 ·rcases hD with rfl|rfl
  ·rw[uY]at bK;cases bK
  ·rw[xO (by simpa using hs)]at bK;cases bK
   have Ar:∀c o,(aU.rows R.af (rows.drop off++new) true fz).ext R' c o->(aU.rows R.af rows true fz).ext R c o:=by
    rintro c o ⟨rfl,e1,e2⟩
    simp only[R',if_true]at e1 e2;exact⟨rfl,by omega,by simp only[if_true];omega⟩
   refine⟨R',by simp[β'],⟨rfl,fun r hr=>?_,by simp only[R'];omega,by simp only[R'];omega,by omega,?_,fun i j t ht=>?_,fun Ep o e1 e2=>.inr ⟨Ep,rfl,e1,e2⟩⟩,fun c o hy=>?_,fun c o hy rM=>?_,fun Cy gY uU cY iG lH c o hy hz=>?_⟩
   ·rcases List.mem_append.1 hr with hr|hr
    ·exact h1 r (List.mem_of_mem_drop hr)
    ·exact dG r hr
   ·intro o e1 e2
    simp only[R',if_true]at e1 e2;exact Q9 h4 hex o (by omega) (by omega)
   ·rcases uX ht with⟨hi,ht⟩|⟨hi,ht⟩
    ·have lQ:eJ rows (off+i) j=some t:=by
      unfold eJ at ht ⊢;rw[List.getElem?_drop]at ht;exact ht
     obtain⟨v,e1,e2⟩:=h5 _ _ _ lQ;obtain⟨_,_,bH⟩:=gE h1 lQ;refine⟨v,?_,e2.mono xM xP⟩;rw[Nat.add_mul]at e1 bH;simp only[R'];rw[Pb (by omega),show R.co+off*R.af+i*R.af+j=R.co+(off*R.af+i*R.af)+j by omega];exact e1
    ·obtain⟨v,e1,e2⟩:=Aj.2 _ _ _ ht
     obtain⟨_,_,bH⟩:=gE dG ht;refine⟨v,?_,e2.mono xM xP⟩;rw[List.length_drop]at hi e1 bH;have hii:i*R.af+off*R.af=rows.length*R.af+(i-(rows.length-off))*R.af:=by
      rw[<-Nat.add_mul,<-Nat.add_mul];congr 1;omega
     simp only[R'];rw[fE hex (by omega) (by omega) (v:=v)];rw[show R.co+off*R.af+i*R.af+j-(R.co+rows.length*R.af)=(i-(rows.length-off))*R.af+j by omega];exact e1
   ·rw[SA];exact hx c o (Ar c o hy)
   ·obtain⟨rfl,e1,e2⟩:=hy
    simp only[R',if_true]at e1 e2;rcases rM with rM|⟨e3,_,_,e5⟩
    ·refine Eo _ o ⟨rfl,?_,by simp only[if_true];omega⟩ rM
     cases fz
     ·simp at e1 ⊢;omega
     ·simp only[if_true]at e1 ⊢;omega
    ·rw[if_pos e3]at e1
     simp only[R']at e5;omega
   ·by_cases I3:Cy=b
    ·subst I3;rw[uY]at iG;cases iG
    ·rw[mb Cy cY I3]at iG
     have SD:β Cy=some uU:=by simp only[β',if_neg cY]at lH;exact lH
     exact h.kX b Cy _ gY R uU (Ne.symm I3) hb iG hR SD c o (Ar c o hy) hz
end
section
variable {P:Program} {C:dP} {K:Ctx} {β:Nat->Option bS} {S:Place} {st:St} {a:Act} {w:World} {slot:Nat} {e:bZ} {o:Oper}
theorem Sat.uZ (h:Sat K β S st a w) (hs:slot<st.heap.length) (hf:β slot=none) {w':World} {cells:Array Value} {el:TypeId} {cs:List Cell}
  (hh:w'.heap=w.heap.push (.cells cells el (0,0))) (JB:w'.os=w.os) (uS:w'.tape=w.tape) (ET:w'.output=w.output) (hl:cs.length<=cells.size) (EU:cells.size<2^63)
  (hc:∀(j:Nat) (c:Cell),cs[j]?=some c->∃v,cells[j]?=some v/\dd β S w c v) :
  ∃β',(∀b,b≠slot->β' b=β b)/\Sat K β' S ⟨st.tmps,st.heap.set slot (some (.var cs))⟩ a w'/\aY β' S w' (.c (.sl slot 0 cs.length false)) (.slice (some ⟨w.heap.size,0,none⟩) cs.length cells.size):=by
 let R:bS:=⟨w.heap.size,0,1,cells.size⟩
 have Gn:∀c v,dd β S w c v->dd (fun b=>if b=slot then some R else β b) S w' c v:=fun c v hr=>
  hr.mono (fun b R' hb=>by rw[if_neg (by rintro rfl;rw[hf]at hb;cases hb)];exact hb) (fun _ _ hx=>hx) (fun b o hb=>uV hh (h.rH b o hb) o)
 refine⟨fun b=>if b=slot then some R else β b,fun b hb=>if_neg hb,?_,?_⟩
 ·refine h.new hs hf (R:=R) hh JB uS ET rfl (fun _ _ hx=>hx) (fun _ _ hx=>.inl hx) ⟨⟨fun o h1 h2=>?_,rfl,EU⟩,fun j c hj=>?_⟩ fun c o hx hy=>?_
  ·obtain⟨e1,e2⟩:=iO hh o
   refine⟨?_,e2⟩;rw[e1,Array.getElem?_eq_getElem (by have Gp:o<0+max cs.length cells.size:=h2;omega)];rfl
  ·obtain⟨v,e1,e2⟩:=hc j c hj
   refine⟨v,?_,Gn c v e2⟩;rw[show R.co+j=j from Nat.zero_add j,(iO hh j).1,e1]
  ·have e1:c=w.heap.size:=hx.1
   have:=h.rH c o hy;omega
 ·exact .c (.sl R _ cells.size (by simp) (by simp) (by simp[R]) hl (by simp[R]) fun _=>by simp[R])
theorem Sat.Hr (h:Sat K β S st a w) {b:Nat} {cs ns:List Cell} {R:bS} (hb:look st.heap b=some (.var cs)) (hR:β b=some R) (hs:slot<st.heap.length) (hf:β slot=none)
  (jP:cs.length+ns.length<=R.cap) {vs:List Value} (Vi:vs.length=ns.length) (hv:∀(j:Nat) (c:Cell),ns[j]?=some c->∃v,vs[j]?=some v/\dd β S w c v) :
  ∃β',(∀b',b'≠slot->β' b'=β b')/\Sat K β' S ⟨st.tmps,(st.heap.set b none).set slot (some (.var (cs++ns)))⟩ a (w.setCells R.cb (R.co+cs.length) vs)/\β' slot=some R:=by
 have uT:b≠slot:=by rintro rfl;rw[hR]at hf;cases hf
 obtain⟨R0,Gq,⟨⟨h0,h1,h2⟩,h3⟩,hx,Eo⟩:=h.aR b _ hb;rw[hR]at Gq;cases Gq
 let β':Nat->Option bS:=fun b'=>if b'=slot then some R else β b'
 have kZ:(cs++ns).length=cs.length+ns.length:=by simp
 have Ar:∀c o,(aU.var (cs++ns)).ext R c o->(aU.var cs).ext R c o:=by
  rintro c o ⟨rfl,e1,e2⟩
  have e2:o<R.co+max (cs++ns).length R.cap:=e2;rw[kZ]at e2;exact⟨rfl,e1,by show o<R.co+max cs.length R.cap;omega⟩
 have iv:∀j,j<vs.length->(aU.var cs).wr R R.cb (R.co+cs.length+j):=fun j hj=>⟨rfl,by omega,by show R.co+cs.length+j<R.co+max cs.length R.cap;omega⟩
 have hex:∀j,j<vs.length->(w.cell? ⟨R.cb,R.co+cs.length+j,none⟩).isSome=true:=fun j hj=>(h0 _ (by omega) (by omega)).1
 have xP:=h.dN hb hR iv;have Hl:∀b' R1,β b'=some R1->β' b'=some R1:=fun b' R1 bK=>by
  have:b'≠slot:=by rintro rfl;rw[hf]at bK;cases bK
  simp only[β',if_neg this];exact bK
 have mb:∀b',b'≠slot->b'≠b->look ((st.heap.set b none).set slot (some (.var (cs++ns)))) b'=look st.heap b':=fun b' e1 e2=>by
  rw[rS e1,rS e2]
 have uY:look ((st.heap.set b none).set slot (some (.var (cs++ns)))) b=none:=by
  rw[rS uT,xO (rQ hb)]
 have EV:∀c o,(c=R.cb/\R.co+cs.length<=o/\o<R.co+cs.length+vs.length)->(aU.var cs).wr R c o:=by
  rintro c o ⟨rfl,e1,e2⟩
  have:=iv (o-(R.co+cs.length)) (by omega);rwa[show R.co+cs.length+(o-(R.co+cs.length))=o by omega]at this
 refine⟨β',fun b' bK=>if_neg bK,?_,by simp[β']⟩;refine h.step (fun b'=>b'=b∨b'=slot) (gN R.cb vs _ w) (fun c o hc bH=>⟨Eo c o (EV c o hc),(hx c o (aU.fb (EV c o hc))).2,fun b' aR R1 hD bK I4 hy=>?_⟩) Hl (fun b' R1 bK=>?_) (fun _ _ hx=>hx) (fun _ _ hx=>.inl hx) (fun b' aR hD bK=>?_) (fun b' aR hD bK=>?_)
 ·exact h.kX b b' _ aR R R1 (fun e=>hD (.inl e.symm)) hb bK hR I4 c o (aU.fb (EV c o hc)) hy
 ·simp only[List.length_set]
  by_cases Pc:b'=slot
  ·omega
  ·simp only[β',if_neg Pc]at bK;exact h.top b' R1 bK
 ·rw[mb b' (fun e=>hD (.inr e)) (fun e=>hD (.inl e))]at bK;exact bK
 ·rcases hD with rfl|rfl
  ·rw[uY]at bK;cases bK
  ·rw[xO (by simpa using hs)]at bK;cases bK
   refine⟨R,by simp[β'],⟨⟨fun o e1 e2=>?_,h1,h2⟩,fun j c hj=>?_⟩,fun c o hy=>?_,fun c o hy rM=>?_,fun Cy gY uU cY iG lH c o hy hz=>?_⟩
   ·rw[kZ]at e2
    exact Q9 h0 hex o (by omega) (by omega)
   ·rw[List.getElem?_append]at hj
    split at hj
    ·obtain⟨v,e1,e2⟩:=h3 j c hj
     exact⟨v,by rw[Pb (by omega)];exact e1,e2.mono Hl (fun _ _ hx=>hx) xP⟩
    ·obtain⟨v,e1,e2⟩:=hv _ c hj
     have bH:=ta e1;exact⟨v,by rw[fE hex (by omega) (by omega) (v:=v)];rw[show R.co+j-(R.co+cs.length)=j-cs.length by omega];exact e1,e2.mono Hl (fun _ _ hx=>hx) xP⟩
   ·rw[SA];exact hx c o (Ar c o hy)
   ·exact Eo c o (Ar c o hy) rM
   ·by_cases I3:Cy=b
    ·subst I3;rw[uY]at iG;cases iG
    ·rw[mb Cy cY I3]at iG
     have SD:β Cy=some uU:=by simp only[β',if_neg cY]at lH;exact lH
     exact h.kX b Cy _ gY R uU (Ne.symm I3) hb iG hR SD c o (Ar c o hy) hz
theorem oN {w:World} {cb co:Nat}:∀(ns:List Cell) (i:Nat),(∀(j:Nat) (c:Cell),ns[j]?=some c->∃v,w.cell? ⟨cb,co+(i+j),none⟩=some v/\dd β S w c v) ->
  ∃vs:List Value,vs.length=ns.length/\∀(j:Nat) (c:Cell),ns[j]?=some c->∃v,vs[j]?=some v/\w.cell? ⟨cb,co+(i+j),none⟩=some v/\dd β S w c v
 | [],i,_=>⟨[],rfl,fun j c h=>by simp at h⟩
 | n::ns,i,h=>by
  obtain⟨v,h1,h2⟩:=h 0 n rfl;obtain⟨vs,e1,e2⟩:=oN ns (i+1) fun j c hj=>by
   rw[show co+(i+1+j)=co+(i+(j+1)) by omega];exact h (j+1) c hj
  refine⟨v::vs,by simp[e1],fun j c hj=>?_⟩;cases j with
  | zero=>simp at hj;subst hj;exact⟨v,rfl,h1,h2⟩
  | succ j=>
   obtain⟨u,q1,q2,q3⟩:=e2 j c (by simpa using hj);exact⟨u,by simpa using q1,by rw[show co+(i+(j+1))=co+(i+1+j) by omega];exact q2,q3⟩
theorem tj {ti:TI} {slot:Nat} {h:Hp} {s x:AV} {e:bZ} (he:jD ti slot h s x=some e):rowsOf h x=none:=by
 unfold jD at he;split at he
 ·rename_i b off len b' Js Jt El
  split at he
  ·rename_i cs ns hb bK
   simp[rowsOf,bK]
  ·cases he
 ·cases he
theorem Pd (hC:bt P C) (h:Sat K β S st a w) (hs:slot<st.heap.length) (hf:β slot=none) {args:Array Operand} {argTypes:Array TypeId} {el:TypeId} {te:TI} {s x:Operand}
  (ho:o.op=.call { callee:=.builtin .append,args,argTypes }) (dx:args.toList=[s,x]) (NS:ui P argTypes el) (de:C.ty el=some te) (hb:te.bytes≠0)
  (he:jD te slot (look st.heap) (st.get s) (st.get x)=some e):nG P K β S st a w slot o e:=by
 have dB:=iw (hC _ te de);have I5:args=#[s,x]:=by rw[<-Array.toArray_toList (xs:=args),dx]
 subst I5;have tn:=h.get s;have JG:=h.get x;have cL:∀v w',(Builtin.append_ argTypes o.type #[a.eval s,a.eval x]).run P w=.ok v w'->(execOp a.eval o).run P w=.ok (.value v) w':=by
  intro v w' hv;simp only[execOp,ho,resolve,invoke,builtin,Sem.run_bind,Sem.run_pure,Result.andThen,List.map_toArray,List.map_cons,List.map_nil,hv]
 unfold jD at he;split at he
 ·rename_i b off len b' Js Jt El hg hg'
  split at he
  ·rename_i cs ns gz Wy
   split at he
   ·rename_i xQ
    obtain⟨rfl,rfl,rfl,rfl,qf,dG,lI⟩:=xQ;cases he;rw[hg]at tn;rw[hg']at JG;cases tn with|c tn=>
    cases JG with|c JG=>
    generalize dW:a.eval s=av at tn;generalize Vf:a.eval x=ax at JG;cases tn with|sl R base cap hR h1 h2 h3 h4 h5=>
    cases JG with|sl R2 Gr Mw rL g1 g2 g3 g4 g5=>
    have JH:=h2 rfl;rw[Nat.zero_add]at JH;obtain⟨R0,q1,⟨⟨q2,q3,q4⟩,q5⟩,q6,q7⟩:=h.aR b _ gz;rw[hR]at q1;cases q1;obtain⟨R0,p1,⟨⟨p2,p3,p4⟩,p5⟩,p6,p7⟩:=h.aR b' _ Wy;rw[rL]at p1;cases p1;have Pe:=g5 (by omega);obtain⟨nv,n1,n2⟩:=oN (β:=β) (S:=S) (cb:=R2.cb) (co:=R2.co) ns 0 fun j c hj=>by rw[Nat.zero_add];exact p5 j c hj
    obtain⟨ov,o1,o2⟩:=oN (β:=β) (S:=S) (cb:=R.cb) (co:=R.co) cs 0 fun j c hj=>by rw[Nat.zero_add];exact q5 j c hj
    have hld:∀d,(Builtin.firstCells te.size ns.length (.slice Gr ns.length Mw)).run P { w with drawn:=d }=.ok nv.toArray { w with drawn:=d }:=fun d=>by
     rw[Pe];have:=run_loadCells_list (P:=P) { w with drawn:=d } ⟨R2.cb,R2.co+0*R2.af,none⟩ nv fun j v hj=>by
      have bH:=ta hj;obtain⟨u,k1,k2,_⟩:=n2 j (ns[j]'(by omega)) (List.getElem?_eq_getElem (by omega));rw[hj]at k1;cases k1;rw[Gl,Nat.zero_mul,Nat.add_zero];rw[Nat.zero_add]at k2;exact k2
     rw[n1]at this;simpa[Builtin.firstCells,dG]using this
    have Wz:∀d,(Builtin.firstCells te.size cs.length (.slice base cs.length cap)).run P { w with drawn:=d }=.ok ov.toArray { w with drawn:=d }:=fun d=>by
     rcases Nat.eq_zero_or_pos cs.length with h0|h0
     ·have:ov=[]:=List.eq_nil_of_length_eq_zero (by omega)
      subst this;rw[h0];cases base<;>simp[Builtin.firstCells,loadCells,loadCellsFrom]
     ·rw[h5 (by omega)]
      have:=run_loadCells_list (P:=P) { w with drawn:=d } ⟨R.cb,R.co+0*R.af,none⟩ ov fun j v hj=>by
       have bH:=ta hj;obtain⟨u,k1,k2,_⟩:=o2 j (cs[j]'(by omega)) (List.getElem?_eq_getElem (by omega));rw[hj]at k1;cases k1;rw[Gl,Nat.zero_mul,Nat.add_zero];rw[Nat.zero_add]at k2;exact k2
      rw[o1]at this;simpa[Builtin.firstCells,dG]using this
    have hlen:(Builtin.lenOf (.slice Gr ns.length Mw)).run P w=.ok ns.length w:=by simp[Builtin.lenOf]
    have tX:(cs.length+ns.length)*1<=(cs.length+ns.length)*te.bytes:=Nat.mul_le_mul_left _ (by omega);unfold aF at lI
    by_cases jP:cs.length+ns.length<=cap
    ·obtain⟨β',f1,f2,f3⟩:=h.Hr (ns:=ns) (vs:=nv) gz hR hs hf (by omega) n1 fun j c hj=>by
      obtain⟨u,k1,_,k3⟩:=n2 j c hj;exact⟨u,k1,k3⟩
     have dC:(storeCells ⟨R.cb,R.co+cs.length,none⟩ nv).run P w=.ok () (w.setCells R.cb (R.co+cs.length) nv):=by
      have:=run_storeCells_cells (P:=P) R.cb (R.co+cs.length) nv 0 w (fun j hj=>(q2 _ (by omega) (by omega)).1) (fun j hj=>(q2 _ (by omega) (by omega)).2) (fun u hu=>by
       obtain⟨k,hk⟩:=List.getElem?_of_mem hu;have Gs:=ta hk;obtain⟨u',k1,_,k3⟩:=n2 k (ns[k]'(by omega)) (List.getElem?_eq_getElem (by omega));rw[hk]at k1;cases k1;exact gV k3.one)
      simpa using this
     have xR:=h5 (by omega);have CE:(⟨R.cb,R.co+0*R.af,none⟩:Addr).add (cs.length*te.size)=⟨R.cb,R.co+cs.length,none⟩:=by
      rw[Gl,Nat.zero_mul,Nat.add_zero,dG,Nat.mul_one]
     have:=Vh (P:=P) (w:=w) (ty:=o.type) NS dB (base:=base) (eo:=cs.length) (kh:=cap) (xv:=.slice Gr ns.length Mw) (n:=ns.length) (vs:=nv) hlen (hld w.drawn) jP (w':=w.setCells R.cb (R.co+cs.length) nv) (by rw[xR];simp only[CE];exact dC);rw[<-dW,<-Vf]at this;exact⟨_,β',S,_,_,cL _ _ this,.inl rfl,f1,f2,.c (.sl R base cap f3 (by simp) (fun _=>by omega) jP (by omega) h5)⟩
    ·obtain⟨d,kj,c1,c2,c3⟩:=jR (P:=P) (w:=w) (ty:=o.type) NS dB hb (base:=base) (eo:=cs.length) (kh:=cap) (xv:=.slice Gr ns.length Mw) (n:=ns.length) hlen (by omega) (by omega)
     obtain⟨rest,r1,r2⟩:=c3 ov nv (Wz d) (hld d);have oF:(ov.toArray++nv.toArray++rest).size=kj:=by
      simp only[Array.size_append,List.size_toArray,r1,dG,Nat.mul_one];omega
     obtain⟨β',f1,f2,f3⟩:=(h.kill b).uZ (slot:=slot) (by simpa using hs) hf (w':={ w with drawn:=d,heap:=w.heap.push (.cells (ov.toArray++nv.toArray++rest) el) }) (cells:=ov.toArray++nv.toArray++rest) (el:=el) (cs:=cs++ns) rfl rfl rfl rfl (by rw[oF];simp;omega) (by omega) fun j c hj=>by
      have bH:=ta hj;simp only[List.length_append]at bH;rw[List.getElem?_append]at hj;have e1:(ov.toArray++nv.toArray++rest)[j]?=(ov++nv)[j]?:=by
       rw[Array.getElem?_append_left (by simp;omega)];simp
      rw[e1,List.getElem?_append];split at hj
      ·obtain⟨u,k1,_,k3⟩:=o2 j c hj
       rw[if_pos (by omega)];exact⟨u,k1,k3⟩
      ·obtain⟨u,k1,_,k3⟩:=n2 _ c hj
       rw[if_neg (by omega),o1];exact⟨u,k1,k3⟩
     rw[oF]at f3;simp only[List.length_append]at f3;rw[<-dW,<-Vf]at r2;exact⟨_,β',S,_,_,cL _ _ r2,.inl rfl,f1,f2,f3⟩
   ·cases he
  ·cases he
 ·cases he
end
section
variable {P:Program} {C:dP} {K:Ctx} {β:Nat->Option bS} {S:Place} {st:St} {a:Act} {w:World} {slot:Nat} {e:bZ} {o:Oper}
theorem u9 {rows:List (List Tree)} {n:Nat} (h:(rows.all fun r=>r.length==n)=true):∀r∈rows,r.length=n:=fun r hr=>by simpa using List.all_eq_true.1 h r hr
theorem EW {x:AV} {v:Value} (hx:aY β S w x v) (h:EH x=true):∃base len cap,v=.slice base len cap/\len<=cap:=by
 unfold EH at h;split at h
 ·cases hx with|c hx=>cases hx with|t hx=>cases hx with|aa _ _ _ _ _ _ _ _ h1=>exact⟨_,_,_,rfl,h1⟩
 ·cases hx with|c hx=>cases hx with|sl _ _ _ _ _ _ h3=>exact⟨_,_,_,rfl,h3⟩
 ·cases h
theorem Flat.head {rows:List (List Tree)} {size:Nat} {vs rest:List Value} (h:Flat S w rows size vs):Flat S w rows size ((vs++rest).take (rows.length*size)):=by
 rw[<-h.1,List.take_left];exact h
theorem dR.JI {B:Nat} {R:bS} {sz:Nat} {rows:List (List Tree)} {g:Bool} (h:dR β S w B R (.rows sz rows g true)):dF S w (.aa false rows) (.slice (some ⟨R.cb,R.co,none⟩) rows.length R.cap):=by
 obtain⟨q0,q1,q2,q3,O9,q4,q5,q6⟩:=h;have:∃val:Nat->Nat->Value,∀i j t,eJ rows i j=some t->w.cell? ⟨R.cb,R.co+i*R.af+j,none⟩=some (val i j)/\dF S w t (val i j):=by
  have:∀i j,∃v,∀t,eJ rows i j=some t->w.cell? ⟨R.cb,R.co+i*R.af+j,none⟩=some v/\dF S w t v:=by
   intro i j;cases ht:eJ rows i j with
   | none=>exact⟨undef,by simp⟩
   | some t=>
    obtain⟨v,a1,a2⟩:=q5 _ _ _ ht;exact⟨v,fun t' lQ=>by cases lQ;exact⟨a1,a2⟩⟩
  exact⟨fun i j=>(this i j).choose,fun i j t ht=>(this i j).choose_spec t ht⟩
 obtain⟨val,oL⟩:=this;refine .aa false rows _ R.cb R.co R.af R.cap val q2 q3 (by omega) (by simp) (fun _=>rfl) (by simp) q1 (fun i j t ht=>?_) (fun i j t ht=>(oL i j t ht).2);obtain⟨_,_,bH⟩:=gE q1 ht;exact⟨q6 rfl _ (by omega) (by omega),(oL i j t ht).1⟩
theorem Sat.Pf (h:Sat K β S st a w) {b sz:Nat} {rows:List (List Tree)} {R:bS} (bH:b<st.heap.length) (hR:β b=some R) (im:dR β S w K.B0 R (.fR sz rows)):Sat K β S ⟨st.tmps,st.heap.set b (some (.fR sz rows))⟩ a w:=by
 refine h.step (Wr:=fun _ _=>False) (fun b'=>b'=b) (eK.refl _ _) (fun _ _ hx=>hx.elim) (fun _ _ hx=>hx) (fun b' R' bK=>by simpa using h.top b' R' bK) (fun _ _ hx=>hx) (fun _ _ hx=>.inl hx) (fun b' aR hD bK=>?_) (fun b' aR hD bK=>?_)
 ·rw[rS hD]at bK;exact bK
 ·subst hD
  rw[xO bH]at bK;cases bK;exact⟨R,hR,im,fun c o hx=>hx.2.elim,fun c o hx=>hx.2.elim,fun _ _ _ _ _ _ c o hx=>hx.2.elim⟩
theorem Sat.leave {hp:bM} {tm:List AV} {b sz:Nat} {rows:List (List Tree)} {fz:Bool} {x:Option aU} {R:bS} (h:Sat K β S ⟨tm,(hp.set b none).set slot x⟩ a w) (uT:b≠slot) (bH:b<hp.length) (hR:β b=some R)
  (im:fz=true->dR β S w K.B0 R (.fR sz rows)):Sat K β S ⟨tm,(hp.set b (Co sz rows fz)).set slot x⟩ a w:=by
 cases fz with
 | false=>exact h
 | true=>
  have:=h.Pf (b:=b) (by simpa using bH) hR (im rfl);have e:((hp.set b none).set slot x).set b (some (.fR sz rows))=(hp.set b (Co sz rows true)).set slot x:=by
   rw[List.set_comm _ _ (Ne.symm uT),List.set_set];rfl
  rw[e]at this;exact this
theorem CG (hC:bt P C) (h:Sat K β S st a w) (hs:slot<st.heap.length) (hf:β slot=none) {args:Array Operand} {argTypes:Array TypeId} {el:TypeId} {te:TI} {s x:Operand}
  (ho:o.op=.call { callee:=.builtin .append,args,argTypes }) (dx:args.toList=[s,x]) (NS:ui P argTypes el) (de:C.ty el=some te) (hb:te.bytes≠0)
  (he:bY te slot (look st.heap) (st.get s) (st.get x)=some e):nG P K β S st a w slot o e:=by
 have dB:=iw (hC _ te de);have I5:args=#[s,x]:=by rw[<-Array.toArray_toList (xs:=args),dx]
 subst I5;have tn:=h.get s;have JG:=h.get x;have cL:∀v w',(Builtin.append_ argTypes o.type #[a.eval s,a.eval x]).run P w=.ok v w'->(execOp a.eval o).run P w=.ok (.value v) w':=by
  intro v w' hv;simp only[execOp,ho,resolve,invoke,builtin,Sem.run_bind,Sem.run_pure,Result.andThen,List.map_toArray,List.map_cons,List.map_nil,hv]
 unfold bY at he;split at he
 ·exact Pd hC h hs hf ho dx NS de hb he
 ·rename_i new nF tY
  split at he
  ·rename_i Me
   split at he
   ·rename_i O3
    cases he;obtain⟨base,len,cap,SE,hle⟩:=EW tn O3;have WA:new=[]:=List.eq_nil_of_length_eq_zero Me;subst WA;obtain⟨h1,h2⟩:=gF (P:=P) h JG tY (size:=te.size) (by simp);obtain⟨vs,h3,h4,_⟩:=h2 0 (by simp);have OY:vs=[]:=List.eq_nil_of_length_eq_zero (by simpa using h4);subst OY;have:=Vh (P:=P) (w:=w) (ty:=o.type) NS dB (base:=base) (eo:=len) (kh:=cap) (xv:=a.eval x) (n:=0) (vs:=[]) (by simpa using h1) h3 (by omega) (w':=w) (by cases base<;>simp[storeCells])
    rw[<-SE]at this;refine⟨w,β,S,a.eval s,_,cL _ _ this,.inl (by rw[SE];simp),fun _ _=>rfl,h,?_⟩;exact tn
   ·cases he
  ·rename_i Me
   split at he
   ·cases he
   ·rename_i lF
    have JJ:∀r∈new,r.length=te.size:=u9 (by simpa using lF);obtain⟨JD,uW⟩:=gF (P:=P) h JG tY JJ;have JK:∀(base:Option Addr) (eo kh:Nat) (fR:List (List Tree)) (rd:List Nat) (fz:Bool) (heap:bM),a.eval s=.slice base eo kh->rowsOf (look st.heap) (st.get s)=some (fR,rd)->fR.length=eo ->
      (∀r∈fR,r.length=te.size)->kh<eo+new.length->(eo+new.length)*te.bytes<=aF->Sat K β S ⟨st.tmps,heap⟩ a w->slot<heap.length ->
      ∃w' β' S' v,(Builtin.append_ argTypes o.type #[a.eval s,a.eval x]).run P w=.ok v w'/\(∀b,b≠slot->β' b=β b)/\Sat K β' S' ⟨st.tmps,heap.set slot (some (.rows te.size (fR++new) true fz))⟩ a w'/\aY β' S' w' (.c (.sl slot 0 (eo+new.length) false)) v/\(∀x v,aY β S w x v->aY β' S' w' x v):=by
     intro base eo kh fR rd fz heap SE hold hol JB JF lI jQ bH;have tX:(eo+new.length)*1<=(eo+new.length)*te.bytes:=Nat.mul_le_mul_left _ (by omega);unfold aF at lI;obtain⟨d,kj,c1,c2,c3⟩:=jR (P:=P) (w:=w) (ty:=o.type) NS dB hb (base:=base) (eo:=eo) (kh:=kh) (xv:=a.eval x) (n:=new.length) JD JF (by omega);obtain⟨ov,o1,o2⟩:=(gF (P:=P) (h.drawn d) (tn.drawn d) hold JB).2 fR.length (Nat.le_refl _)
     obtain⟨nv,n1,n2⟩:=(gF (P:=P) (h.drawn d) (JG.drawn d) tY JJ).2 new.length (Nat.le_refl _);rw[List.take_length]at o2 n2;rw[hol,SE]at o1;obtain⟨rest,r1,r2⟩:=c3 ov nv o1 n1;rw[<-SE]at r2;have Aj:Flat S w (fR++new) te.size (ov++nv):=(o2.append n2 JB).mono (fun _ _ hx=>hx) fun _ _ _=>rfl
     have dG:∀r∈fR++new,r.length=te.size:=by
      intro r hr;rcases List.mem_append.1 hr with hr|hr
      ·exact JB r hr
      ·exact JJ r hr
     have hl:(fR++new).length=eo+new.length:=by simp[hol]
     have oF:(ov.toArray++nv.toArray++rest).size=kj*te.size:=by
      have e1:=Aj.1;rw[hl,List.length_append]at e1;simp only[Array.size_append,List.size_toArray,r1];rw[e1,<-Nat.add_mul];congr 1;omega
     obtain⟨β',S',e1,e2,e3,e4⟩:=jQ.Ao (slot:=slot) bH hf (w':={ w with drawn:=d,heap:=w.heap.push (.cells (ov.toArray++nv.toArray++rest) el) }) (el:=el) (rows:=fR++new) (size:=te.size) (cap:=kj) (g:=true) (fz:=fz) rfl rfl rfl rfl dG (by omega) c2 (by omega) oF (by
      have:(ov.toArray++nv.toArray++rest).toList=(ov++nv)++rest.toList:=by simp
      rw[this];exact Aj.head)
     rw[hl]at e3;exact⟨_,β',S',_,r2,e1,e2,e3,e4⟩
    split at he
    ·rename_i rows hg
     split at he
     ·rename_i hr
      simp only[Bool.and_eq_true,decide_eq_true_eq]at hr;cases he;rw[hg]at tn;have WB:=tn;cases tn with|c tn=>
      cases tn with|t tn=>
      generalize dW:a.eval s=av at tn;cases tn with|aa _ _ base cb co af cap val h1 h2 h3 h4 h5 NL h6 h7 h8=>
      obtain⟨w',β',S',v,g1,g2,g3,g4,_⟩:=JK base rows.length cap rows [] false st.heap dW (by rw[hg];rfl) rfl (u9 hr.1) (by have:=h4 rfl;omega) hr.2 h hs;exact⟨w',β',S',v,_,cL _ _ g1,.inl rfl,g2,g3,g4⟩
     ·cases he
    ·rename_i b off len cp hg
     rw[hg]at tn;have WB:=tn;cases tn with|c tn=>
     generalize dW:a.eval s=av at tn;cases tn with|sl R base cap hR h1 h2 h3 h4 h5=>
     split at he
     ·rename_i sz rows g fz gz
      split at he
      ·cases he
      ·rename_i xQ
       simp only[Decidable.not_not]at xQ;obtain⟨rfl,lI,hle⟩:=xQ;obtain⟨R',e1,⟨q0,q1,q2,q3,O9,q4,q5,q6⟩,e4,e5⟩:=h.aR b _ gz;rw[hR]at e1;cases e1;have Hi:((rows.drop off).take len).length=len:=by rw[List.length_take,List.length_drop];omega
       have SF:rowsOf (look st.heap) (st.get s)=some ((rows.drop off).take len,[b]):=by
        rw[hg];simp[rowsOf,gz,hle]
       have oF:∀r∈(rows.drop off).take len,r.length=te.size:=fun r hr=>by rw[q0];exact q1 r (qe hr)
       split at he
       ·rename_i xe
        cases he;obtain⟨w',β',S',v,g1,g2,g3,g4,_⟩:=JK base len cap _ [b] false st.heap dW SF Hi oF (by have:=h1 xe;omega) lI h hs;exact⟨w',β',S',v,_,cL _ _ g1,.inl rfl,g2,g3,g4⟩
       ·rename_i xe
        have WC:cp=false:=by simpa using xe
        have JH:=h2 WC;split at he
        ·rename_i eQ
         have SG:(rows.drop off).take len=rows.drop off:=by rw[List.take_of_length_le];simp;omega
         split at he
         ·rename_i hgr
          cases he;subst hgr;have I0:=h.kill b;have uT:b≠slot:=by rintro rfl;rw[hR]at hf;cases hf
          have xS:fz=true->dF S w (.aa false rows) (.slice (some ⟨R.cb,R.co,none⟩) rows.length R.cap):=fun Ep=>by
           subst Ep;exact dR.JI (β:=β) (B:=K.B0) (sz:=te.size) (g:=true) ⟨q0,q1,q2,q3,O9,q4,q5,q6⟩
          by_cases jP:len+new.length<=cap
          ·obtain⟨nv,n1,n2⟩:=uW new.length (Nat.le_refl _)
           rw[List.take_length]at n2;have qf:0<new.length:=by omega
           have xR:=h5 (by omega);have tX:(len+new.length)*1<=(len+new.length)*te.bytes:=Nat.mul_le_mul_left _ (by omega);unfold aF at lI;obtain⟨β',S',g1,g2,g3,g4⟩:=h.grow (new:=new) (off:=off) gz hR hs hf (by omega) (by omega) JJ (by
            omega) n2
           simp only[if_true]at q4;have xL:(rows.length+new.length)*R.af<=R.cap*R.af:=Nat.mul_le_mul_right _ (by omega);rw[Nat.add_mul]at xL;have kZ:nv.length=new.length*R.af:=by rw[n2.1,q0]
           have dC:(storeCells ⟨R.cb,R.co+rows.length*R.af,none⟩ nv).run P w=.ok () (w.setCells R.cb (R.co+rows.length*R.af) nv):=by
            have:=run_storeCells_cells (P:=P) R.cb (R.co+rows.length*R.af) nv 0 w (fun j hj=>(q4 _ (by omega) (by omega)).1) (fun j hj=>(q4 _ (by omega) (by omega)).2) (fun u hu=>by
             obtain⟨k,hk⟩:=List.getElem?_of_mem hu;have Gs:=ta hk;rw[kZ]at Gs;obtain⟨t,ht⟩:=Am (size:=R.af) (fun r hr=>by rw[<-q0];exact JJ r hr) Gs;obtain⟨v,f1,f2⟩:=n2.2 _ _ _ ht;rw[q0,Nat.div_add_mod',hk]at f1;cases f1;exact gV f2.one)
            simpa using this
           have CE:(⟨R.cb,R.co+off*R.af,none⟩:Addr).add (len*te.size)=⟨R.cb,R.co+rows.length*R.af,none⟩:=by
            rw[Gl,q0,<-eQ,Nat.add_mul,Nat.add_assoc]
           have:=Vh (P:=P) (w:=w) (ty:=o.type) NS dB (base:=base) (eo:=len) (kh:=cap) (xv:=a.eval x) (n:=new.length) JD n1 jP (w':=w.setCells R.cb (R.co+rows.length*R.af) nv) (by rw[xR];simp only[CE];exact dC);rw[<-dW]at this;have iv:∀j,j<nv.length->(aU.rows te.size rows true fz).wr R R.cb (R.co+rows.length*R.af+j):=fun j hj=>⟨rfl,by split<;>omega,by simp only[if_true];omega⟩
           have xP:=h.dN gz hR iv;refine⟨_,β',S',_,_,cL _ _ this,.inl rfl,g1,g2.leave uT (rQ gz) (by rw[g1 b uT];exact hR) (fun Ep=>⟨q0,q1,q3,R.cap,(xS Ep).mono g4 xP⟩),.c (.sl _ base cap g3 (by simp) (by simp;omega) jP (by simp;omega) fun _=>?_)⟩;simp[xR]
          ·obtain⟨w',β',S',v,g1,g2,g3,g4,g5⟩:=JK base len cap _ [b] fz (st.heap.set b none) dW SF Hi oF (by omega) lI I0 (by simpa using hs)
           rw[SG]at g3;refine⟨w',β',S',v,_,cL _ _ g1,.inl rfl,g2,g3.leave uT (rQ gz) (by rw[g2 b uT];exact hR) (fun Ep=>⟨q0,q1,q3,R.cap,?_⟩),g4⟩;have hk:=g5 _ _ (.c (.t (xS Ep)));cases hk with|c hk=>
           cases hk with|t hk=>exact hk
         ·cases he
        ·rename_i eQ
         split at he
         ·rename_i Rb
          obtain⟨Rb,rfl⟩:=Rb;cases he;obtain⟨nv,n1,n2⟩:=uW new.length (Nat.le_refl _);rw[List.take_length]at n2;have qf:0<new.length:=by omega
          have xR:=h5 (by omega);have xL:(off+len+new.length)*R.af<=rows.length*R.af:=Nat.mul_le_mul_right _ Rb;rw[Nat.add_mul,Nat.add_mul]at xL;have Hh:rows.length*R.af<=(if g=true then R.cap else rows.length)*R.af:=Nat.mul_le_mul_right _ (by split<;>omega);have kZ:nv.length=new.length*R.af:=by rw[n2.1,q0]
          have uh:∀j,j<nv.length->(w.cell? ⟨R.cb,R.co+(off+len)*R.af+j,none⟩).isSome=true/\w.frozen? ⟨R.cb,R.co+(off+len)*R.af+j,none⟩=false:=fun j hj=>q4 _ (by omega) (by rw[Nat.add_mul];omega)
          have dC:(storeCells ⟨R.cb,R.co+(off+len)*R.af,none⟩ nv).run P w=.ok () (w.setCells R.cb (R.co+(off+len)*R.af) nv):=by
           have:=run_storeCells_cells (P:=P) R.cb (R.co+(off+len)*R.af) nv 0 w (fun j hj=>by simpa using (uh j hj).1) (fun j hj=>by simpa using (uh j hj).2) (fun u hu=>by
            obtain⟨k,hk⟩:=List.getElem?_of_mem hu;have Gs:=ta hk;rw[kZ]at Gs;obtain⟨t,ht⟩:=Am (size:=R.af) (fun r hr=>by rw[<-q0];exact JJ r hr) Gs;obtain⟨v,f1,f2⟩:=n2.2 _ _ _ ht;rw[q0,Nat.div_add_mod',hk]at f1;cases f1;exact gV f2.one)
           simpa using this
          have CE:(⟨R.cb,R.co+off*R.af,none⟩:Addr).add (len*te.size)=⟨R.cb,R.co+(off+len)*R.af,none⟩:=by
           rw[Gl,q0,Nat.add_mul,Nat.add_assoc]
          have CH:=Vh (P:=P) (w:=w) (ty:=o.type) NS dB (base:=base) (eo:=len) (kh:=cap) (xv:=a.eval x) (n:=new.length) JD n1 (by
           have:rows.length<=R.cap:=q2;omega) (w':=w.setCells R.cb (R.co+(off+len)*R.af) nv) (by rw[xR];simp only[CE];exact dC)
          rw[<-dW]at CH;have iv:∀j,j<nv.length->(aU.rows te.size rows g false).wr R R.cb (R.co+(off+len)*R.af+j):=fun j hj=>⟨rfl,by simp;omega,by rw[Nat.add_mul];omega⟩
          have xP:=h.dN gz hR iv;have hlen:=O4 rows new (off+len) Rb;refine⟨_,β,S,_,_,cL _ _ CH,.inl rfl,fun _ _=>rfl,?_,.c (.sl R base cap hR (fun hh=>absurd hh (by simp)) (fun _=>JH) (by omega) h4 h5)⟩;refine h.write gz hR _ _ iv (fun c o hy=>by rw[aU.ext,hlen]at hy;exact hy) (fun c o hy=>by rw[aU.wr,hlen]at hy;exact hy) ⟨q0,fun r hr=>?_,by rw[hlen];exact q2,q3,by rw[hlen];exact O9,?_,fun i j t ht=>?_,by simp⟩
          ·obtain⟨k,hk⟩:=List.getElem?_of_mem hr
           rw[Mr _ _ _ _ Rb]at hk;split at hk
           ·rw[<-q0];exact JJ r (List.mem_of_getElem? hk)
           ·exact q1 r (List.mem_of_getElem? hk)
          ·rw[hlen];exact Q9 q4 fun j hj=>(uh j hj).1
          ·obtain⟨row,f1,f2,f3,f4⟩:=ij ht
           rw[Mr _ _ _ _ Rb]at f1;split at f1
           ·rename_i Pg
            obtain⟨v,k1,k2⟩:=n2.2 _ _ _ (Eg f1 f2);have hj:j<R.af:=by rw[<-q0,<-JJ row (List.mem_of_getElem? f1)];exact f4
            rw[q0]at k1;have hii:i*R.af=(off+len)*R.af+(i-(off+len))*R.af:=by rw[<-Nat.add_mul];congr 1;omega
            have Gs:=ta k1;exact⟨v,fE (fun j hj=>(uh j hj).1) (by omega) (by omega) (by rw[show R.co+i*R.af+j-(R.co+(off+len)*R.af)=(i-(off+len))*R.af+j by omega];exact k1),k2.mono (fun _ _ hx=>hx) xP⟩
           ·rename_i Pg
            have lQ:=Eg f1 f2;obtain⟨v,k1,k2⟩:=q5 _ _ _ lQ;obtain⟨_,hj,_⟩:=gE q1 lQ;refine⟨v,?_,k2.mono (fun _ _ hx=>hx) xP⟩;rw[Pb]
            ·exact k1
            ·rintro⟨_,h8,h9⟩
             rcases Nat.lt_or_ge i (off+len) with Gm|Gm
             ·have:=Nat.mul_le_mul_right R.af (show i+1<=off+len by omega)
              rw[Nat.succ_mul]at this;omega
             ·have:=Nat.mul_le_mul_right R.af (show off+len+new.length<=i by omega)
              rw[Nat.add_mul]at this;omega
         ·cases he
     ·cases he
    ·cases he
end
section
variable {P:Program} {C:dP} {K:Ctx} {β:Nat->Option bS} {S:Place} {st:St} {a:Act} {w:World} {slot:Nat} {e:bZ} {o:Oper}
theorem Flat.WD {rows:List (List Tree)} {size:Nat} {vs:List Value} (h:Flat S w rows size vs) (hs:∀r∈rows,r.length=size):∀u∈vs,one u:=by
 intro u hu;obtain⟨k,hk⟩:=List.getElem?_of_mem hu;have Gs:=ta hk;rw[h.1]at Gs;obtain⟨t,ht⟩:=Am hs Gs;obtain⟨v,f1,f2⟩:=h.2 _ _ _ ht;rw[Nat.div_add_mod',hk]at f1;cases f1;exact f2.one
theorem Sat.overwrite (h:Sat K β S st a w) {b sz lo:Nat} {rows new:List (List Tree)} {g:Bool} {R:bS} (hb:look st.heap b=some (.rows sz rows g false)) (hR:β b=some R)
  (hle:lo+new.length<=rows.length) (dG:∀r∈new,r.length=sz) {nv:List Value} (Aj:Flat S w new sz nv) :
  Sat K β S ⟨st.tmps,st.heap.set b (some (.rows sz (bG rows lo new) g false))⟩ a (w.setCells R.cb (R.co+lo*R.af) nv) /\
   (storeCells ⟨R.cb,R.co+lo*R.af,none⟩ nv).run P w=.ok () (w.setCells R.cb (R.co+lo*R.af) nv)/\(∀c o,S c o->(w.setCells R.cb (R.co+lo*R.af) nv).cell? ⟨c,o,none⟩=w.cell? ⟨c,o,none⟩):=by
 obtain⟨R',e1,⟨q0,q1,q2,q3,O9,q4,q5,q6⟩,e4,e5⟩:=h.aR b _ hb;rw[hR]at e1;cases e1;have xL:(lo+new.length)*R.af<=rows.length*R.af:=Nat.mul_le_mul_right _ hle;rw[Nat.add_mul]at xL;have Hh:rows.length*R.af<=(if g=true then R.cap else rows.length)*R.af:=Nat.mul_le_mul_right _ (by split<;>omega);have kZ:nv.length=new.length*R.af:=by rw[Aj.1,q0]
 have uh:∀j,j<nv.length->(w.cell? ⟨R.cb,R.co+lo*R.af+j,none⟩).isSome=true/\w.frozen? ⟨R.cb,R.co+lo*R.af+j,none⟩=false:=fun j hj=>q4 _ (by omega) (by omega)
 have iv:∀j,j<nv.length->(aU.rows sz rows g false).wr R R.cb (R.co+lo*R.af+j):=fun j hj=>⟨rfl,by simp;omega,by omega⟩
 have xP:=h.dN hb hR iv;have hlen:=O4 rows new lo hle;refine⟨?_,?_,xP⟩
 ·refine h.write hb hR _ _ iv (fun c o hy=>by rw[aU.ext,hlen]at hy;exact hy) (fun c o hy=>by rw[aU.wr,hlen]at hy;exact hy) ⟨q0,fun r hr=>?_,by rw[hlen];exact q2,q3,by rw[hlen];exact O9,?_,fun i j t ht=>?_,by simp⟩
  ·obtain⟨k,hk⟩:=List.getElem?_of_mem hr
   rw[Mr _ _ _ _ hle]at hk;split at hk
   ·rw[<-q0];exact dG r (List.mem_of_getElem? hk)
   ·exact q1 r (List.mem_of_getElem? hk)
  ·rw[hlen];exact Q9 q4 fun j hj=>(uh j hj).1
  ·obtain⟨row,f1,f2,f3,f4⟩:=ij ht
   rw[Mr _ _ _ _ hle]at f1;split at f1
   ·rename_i Pg
    obtain⟨v,k1,k2⟩:=Aj.2 _ _ _ (Eg f1 f2);have hj:j<R.af:=by rw[<-q0,<-dG row (List.mem_of_getElem? f1)];exact f4
    rw[q0]at k1;have hii:i*R.af=lo*R.af+(i-lo)*R.af:=by rw[<-Nat.add_mul];congr 1;omega
    have Gs:=ta k1;exact⟨v,fE (fun j hj=>(uh j hj).1) (by omega) (by omega) (by rw[show R.co+i*R.af+j-(R.co+lo*R.af)=(i-lo)*R.af+j by omega];exact k1),k2.mono (fun _ _ hx=>hx) xP⟩
   ·rename_i Pg
    have lQ:=Eg f1 f2;obtain⟨v,k1,k2⟩:=q5 _ _ _ lQ;obtain⟨_,hj,_⟩:=gE q1 lQ;refine⟨v,?_,k2.mono (fun _ _ hx=>hx) xP⟩;rw[Pb]
    ·exact k1
    ·rintro⟨_,h8,h9⟩
     rcases Nat.lt_or_ge i lo with Gm|Gm
     ·have:=Nat.mul_le_mul_right R.af (show i+1<=lo by omega)
      rw[Nat.succ_mul]at this;omega
     ·have:=Nat.mul_le_mul_right R.af (show lo+new.length<=i by omega)
      rw[Nat.add_mul]at this;omega
 ·have:=run_storeCells_cells (P:=P) R.cb (R.co+lo*R.af) nv 0 w (fun j hj=>by simpa using (uh j hj).1) (fun j hj=>by simpa using (uh j hj).2) (fun u hu=>gV (Aj.WD dG u hu))
  simpa using this
theorem Ph (hC:bt P C) (h:Sat K β S st a w) {args:Array Operand} {argTypes:Array TypeId} {t el:TypeId} {te:TI} {d x:Operand}
  (ho:o.op=.call { callee:=.builtin .copy,args,argTypes }) (dx:args.toList=[d,x]) (ht:argTypes[0]?=some t) (hu:P.underlying t=some (.slice el)) (de:C.ty el=some te)
  (he:kf te (look st.heap) (st.get d) (st.get x)=some e):nG P K β S st a w slot o e:=by
 have dB:=iw (hC _ te de);have I5:args=#[d,x]:=by rw[<-Array.toArray_toList (xs:=args),dx]
 subst I5;have SH:=h.get d;have JG:=h.get x;unfold kf at he;split at he
 ·rename_i src nF b off len cp WE hg
  rw[hg]at SH;cases SH with|c SH=>
  generalize dW:a.eval d=av at SH;cases SH with|sl R base cap hR h1 h2 h3 h4 h5=>
  split at he
  ·rename_i sz rows g hb
   split at he
   ·rename_i xQ
    obtain⟨hle,lF,rfl⟩:=xQ;cases he;have JJ:∀r∈src,r.length=te.size:=u9 lF;obtain⟨JD,uW⟩:=gF (P:=P) h JG WE JJ;have Pj:min src.length len<=src.length:=Nat.min_le_left _ _;have aaC:min src.length len<=len:=Nat.min_le_right _ _;obtain⟨nv,n1,n2⟩:=uW (min src.length len) Pj;have JL:(src.take (min src.length len)).length=min src.length len:=by rw[List.length_take];omega
    obtain⟨s1,s2,s3⟩:=h.overwrite (P:=P) hb hR (lo:=off) (new:=src.take (min src.length len)) (by omega) (fun r hr=>JJ r (List.mem_of_mem_take hr)) n2;refine⟨w.setCells R.cb (R.co+off*R.af) nv,β,S,goInt (min src.length len:Nat),_,?_,.inl rfl,fun _ _=>rfl,s1,aY.rJ (Ej _ _)⟩;have gB:(match base with|some ad=>(storeCells ad nv).run P w|none=>.ok () w)=.ok () (w.setCells R.cb (R.co+off*R.af) nv):=by
     rcases Nat.eq_zero_or_pos cap with h0|h0
     ·have Rc:nv=[]:=List.eq_nil_of_length_eq_zero (by rw[n2.1,JL,show min src.length len=0 by omega];simp)
      subst Rc;cases base<;>simp[storeCells,World.setCells]
     ·rw[h5 h0];exact s2
    cases base with
    | none=>
     simp only[Result.ok.injEq,true_and]at gB;rw[<-gB];simp only[execOp,ho,resolve,invoke,builtin,Builtin.copy_,Sem.run_bind,Sem.run_pure,Result.andThen,List.map_toArray,List.map_cons,List.map_nil,ht,List.getElem?_toArray,List.getElem?_cons_zero,List.getElem?_cons_succ,run_underlying hu,dW,JD,dB.sizeOf];rw[show Nat.min src.length len=min src.length len from rfl,n1]
    | some ad=>
     simp only at gB;simp only[execOp,ho,resolve,invoke,builtin,Builtin.copy_,Sem.run_bind,Sem.run_pure,Result.andThen,List.map_toArray,List.map_cons,List.map_nil,ht,List.getElem?_toArray,List.getElem?_cons_zero,List.getElem?_cons_succ,run_underlying hu,dW,JD,dB.sizeOf];rw[show Nat.min src.length len=min src.length len from rfl,n1];simp only[gB]
   ·cases he
  ·cases he
 ·cases he
def JM (S:Place) (w:World) (rows:List (List Tree)) (size:Nat) (vs:Array Value):Prop:=
 vs.size=rows.length*size/\∀(i j:Nat) (t:Tree),eJ rows i j=some t->∃v,vs[i*size+j]?=some v/\dF S w t v
theorem qj {size:Nat} (SI:size≠0):∀(pa:List (Nat×AV)) (pv:List (Nat×Value)) (rows dh:List (List Tree)) (vs:Array Value) (cur:bM) (S:Place) (m:List (Nat×Option aU)),
  eR (look st.heap) size rows pa=some (dh,m)->pv.length=pa.length->Sat K β S ⟨st.tmps,cur⟩ a w->dT st.heap cur ->
  (∀(k:Nat) (i:Nat) (x:AV),pa[k]?=some (i,x)->∃v,pv[k]?=some (i,v)/\aY β S w x v)->(∀r∈rows,r.length=size)->JM S w rows size vs ->
  ∃S' arr,(∀c o,S c o->S' c o)/\Sat K β S' ⟨st.tmps,dZ cur m⟩ a w/\dT st.heap (dZ cur m)/\Instr.fill (fun i=>some (i*size,size)) vs pv=some arr/\JM S' w dh size arr/\(∀r∈dh,r.length=size)/\dh.length=rows.length
 | [],[],rows,dh,vs,cur,S,m,h,_,jQ,hm,_,hr,hf=>by
  simp[eR]at h;obtain⟨rfl,rfl⟩:=h;exact⟨S,vs,fun _ _ hx=>hx,jQ,hm,rfl,hf,hr,rfl⟩
 | (i,x)::pa,[],_,_,_,_,_,_,_,hl,_,_,_,_,_=>by simp at hl
 | [],_::_,_,_,_,_,_,_,_,hl,_,_,_,_,_=>by simp at hl
 | (i,x)::pa,(i',v)::pv,rows,dh,vs,cur,S,m,h,hl,jQ,hm,hp,hr,hf=>by
  obtain⟨v',rK,hx⟩:=hp 0 i x rfl;simp at rK;obtain⟨rfl,rfl⟩:=rK;unfold eR at h;split at h
  ·rename_i cells Wk
   split at h
   ·rename_i dG
    obtain⟨dG,hi⟩:=dG;split at h
    ·rename_i ts m1 tg
     split at h
     ·rename_i r2 m2 h2
      cases h;obtain⟨h1,h3⟩:=hx.Ai Wk;obtain⟨S1,e1,e2,e3,e4,e5⟩:=fD cells v.cells.toList cur S ts m1 jQ hm h1 h3 tg;have iv:i'*size+size<=rows.length*size:=by
       have:=Nat.mul_le_mul_right size (show i'+1<=rows.length by omega);rwa[Nat.succ_mul]at this
      have oF:v.cells.size=size:=by rw[<-dG,<-h1];simp
      have he:v.cells.zipIdx.foldl (fun cs (c,j)=>cs.setIfInBounds (i'*size+j) c) vs=(v.cells.toList.zipIdx 0).foldl (fun cs (x:Value×Nat)=>cs.setIfInBounds (i'*size+x.2) x.1) vs:=by
       rw[<-Array.foldl_toList,Array.toList_zipIdx]
      obtain⟨g1,g2⟩:=Great.foldl_set (i'*size) v.cells.toList 0 vs;have xi:(rows.set i' ts).length=rows.length:=by simp
      have Wj:JM S1 w (rows.set i' ts) size (v.cells.zipIdx.foldl (fun cs (c,j)=>cs.setIfInBounds (i'*size+j) c) vs):=by
       rw[he];refine⟨by rw[g1,xi];exact hf.1,fun p j t ht=>?_⟩;rw[g2];obtain⟨row,k1,k2,k3,k4⟩:=ij ht;rw[List.getElem?_set]at k1;rw[xi]at k3;split at k1
       ·rename_i WG
        subst WG;cases k1;have hj:j<size:=by omega
        rw[if_pos ⟨by omega,by omega,by rw[hf.1];omega⟩];obtain⟨u,q1,q2⟩:=e5 j t k2;exact⟨u,by rw[show i'*size+j-(i'*size+0)=j by omega];exact q1,q2⟩
       ·rename_i WG
        have hj:j<size:=by rw[<-hr row (List.mem_of_getElem? k1)];exact k4
        rw[if_neg (by
         rintro⟨q1,q2,q3⟩
         rcases Nat.lt_trichotomy p i' with q|q|q
         ·have:=Nat.mul_le_mul_right size (show p+1<=i' by omega)
          rw[Nat.succ_mul]at this;omega
         ·exact WG q.symm
         ·have:=Nat.mul_le_mul_right size (show i'+1<=p by omega)
          rw[Nat.succ_mul]at this;omega)]
        obtain⟨u,q1,q2⟩:=hf.2 p j t (Eg k1 k2);exact⟨u,q1,q2.mono e1 fun _ _ _=>rfl⟩
      have na:∀r∈rows.set i' ts,r.length=size:=by
       intro r EL;rcases List.mem_or_eq_of_mem_set EL with h|h
       ·exact hr r h
       ·rw[h,e4,dG]
      obtain⟨S2,arr,f1,f2,f3,f4,f5,f6,f7⟩:=qj SI pa pv _ _ _ _ S1 m2 h2 (by simpa using hl) e2 e3 (fun k i x hk=>by
       obtain⟨u,q1,q2⟩:=hp (k+1) i x (by simpa using hk);exact⟨u,by simpa using q1,q2.mono (fun _ _ hx=>hx) e1 fun _ _ _=>rfl⟩) na Wj
      refine⟨S2,arr,fun c o hx=>f1 _ _ (e1 _ _ hx),by rw[Er];exact f2,by rw[Er];exact f3,?_,f5,f6,by rw[f7,xi]⟩;unfold Instr.fill;simp only[oF,hf.1];rw[if_neg (by simp;exact iv)];exact f4
     ·cases h
    ·cases h
   ·cases h
  ·cases h
theorem JN (h:Sat K β S st a w) (hs:slot<st.heap.length) (hf:β slot=none) {t el:TypeId} {len:Nat} {ti te:TI} {parts:Array (Nat×Operand)} (ho:o.op=.buildSlice t len parts)
  (dB:gA P t ti) (dS:gA P el te) (hk:ti.kind=.slice el) (he:pS C slot t te.size len (parts.toList.map fun p=>(p.1,st.get p.2))=some e):nG P K β S st a w slot o e:=by
 obtain⟨ie,z,i1,i2,i3,_,_⟩:=qi dS S w β;have JO:∀(k i:Nat) (x:AV),(parts.toList.map fun p=>(p.1,st.get p.2))[k]?=some (i,x)->∃v,(parts.map fun(i,x)=>(i,a.eval x)).toList[k]?=some (i,v)/\aY β S w x v:=fun k i x hx=>nc h parts k i x hx
 have LS:(parts.map fun(i,x)=>(i,a.eval x)).toList.length=(parts.toList.map fun p=>(p.1,st.get p.2)).length:=by simp
 generalize (parts.toList.map fun p=>(p.1,st.get p.2))=ps at he JO LS;generalize Vj:(parts.map fun(i,x)=>(i,a.eval x))=pv at JO LS;unfold pS at he;split at he
 ·rename_i oF dG
  cases he;have WH:pv=#[]:=by
   have:pv.toList=[]:=List.eq_nil_of_length_eq_zero LS;exact Array.toList_eq_nil_iff.1 this
  obtain⟨β',f1,f2,f3⟩:=h.uZ (slot:=slot) hs hf (w':=w.alloc (.cells #[] el)) (cells:=#[]) (el:=el) (cs:=[]) rfl rfl rfl rfl (by simp) (by simp) (fun j c hj=>by simp at hj);refine⟨_,β',S,_,.value (.slice (some ⟨w.heap.size,0,none⟩) 0 0),?_,.inl rfl,f1,f2,f3⟩;simp only[execOp,ho,Vj,WH,Instr.buildSlice,run_underlying (dB.slice hk),Sem.run_bind,Result.andThen,dS.sizeOf,Nat.zero_mul,Sem.run_ite,Sem.run_pure]
  rw[if_neg (by omega)];have Hq:Array.map (fun x=>(#[]:Array Value)[x%(#[]:Array Value).size]!) (Array.range 0)=#[]:=by
   have:Array.range 0=#[]:=rfl;rw[this,Array.map_empty]
  simp only[if_true,Sem.run_pure,Instr.fill,newRow,run_newObj,Sem.run_bind,Result.andThen,Hq];rfl
 ·rename_i x oF dG
  cases he;obtain⟨v,ES,I6⟩:=JO 0 0 (.c x) rfl;have WI:pv.toList=[(0,v)]:=by
   match hq:pv.toList,LS with
   | [q],_=>rw[hq]at ES;simp at ES;rw[ES]
  cases I6 with|c I6=>
  have hvc:=rR I6.one;obtain⟨β',f1,f2,f3⟩:=h.uZ (slot:=slot) hs hf (w':=w.alloc (.cells #[v] el)) (cells:=#[v]) (el:=el) (cs:=[x]) rfl rfl rfl rfl (by simp) (by simp) (fun j c hj=>by
   cases j with
   | zero=>simp at hj;subst hj;exact⟨v,rfl,I6⟩
   | succ j=>simp at hj)
  have cL:=run_buildSlice (P:=P) w t el 1 pv #[v] ie z (dB.slice hk) i1 i2 (by rw[i3,dG];decide) (by rw[i3,dG];decide) (by
   rw[WI,i3,dG];have hA:∀A:Array Value,A.size=1->Instr.fill (fun i=>some (i*1,1)) A [(0,v)]=some #[v]:=fun A hA=>by
    have ji:A.setIfInBounds 0 v=#[v]:=by
     apply Array.ext
     ·simp[hA]
     ·intro i q1 q2
      have:i=0:=by simp at q2;omega
      subst this;simp
    simp[Instr.fill,hvc,hA,ji]
   exact hA _ (by simp))
  refine⟨_,β',S,_,.value (.slice (some ⟨w.heap.size,0,none⟩) 1 1),?_,.inl rfl,f1,f2,f3⟩;simp only[execOp,ho,Vj,Sem.run_bind,cL,Result.andThen,Sem.run_pure]
 ·cases he
theorem Au (hC:bt P C) (h:Sat K β S st a w) (hs:slot<st.heap.length) (hf:β slot=none) {t:TypeId} {len:Nat} {parts:Array (Nat×Operand)} (ho:o.op=.buildSlice t len parts)
  (he:evalOp C slot st.get (look st.heap) (.buildSlice t len parts)=some e):nG P K β S st a w slot o e:=by
 simp only[evalOp]at he;split at he
 ·rename_i ti cB
  have dB:=iw (hC t ti cB);split at he
  ·rename_i el hk
   split at he
   ·rename_i te de
    have dS:=iw (hC _ te de);split at he
    ·rename_i dG
     obtain⟨dG,SI⟩:=dG;split at he
     ·rename_i e1 h1
      cases he;exact JN h hs hf ho dB dS hk h1
     ·split at he
      ·rename_i rows m hfr
       cases he;obtain⟨ie,z,i1,i2,i3,_,_⟩:=qi dS S w β;obtain⟨z',z1,z2,z3⟩:=CA dS SI S w len;have Wl:z'=z:=by
        simp[Go.zeroValue,Go.typeInfo,i1,i2,Result.andThen]at z1;exact z1.symm
       subst Wl;obtain⟨S1,arr,e1,e2,e3,e4,e5,e6,e7⟩:=qj (a:=a) (w:=w) SI _ _ _ _ ((Array.range (len*te.size)).map (z'.cells[· % z'.cells.size]!)) st.heap S m hfr (by simp) h (dT.refl _) (nc h parts) (fun r hr=>by rw[(List.mem_replicate.1 hr).2];exact dS.len) ⟨by simp,fun i j t ht=>by
        obtain⟨v,q1,q2⟩:=z3.2 i j t ht;exact⟨v,by rw[<-Array.getElem?_toList];exact q1,q2⟩⟩
       have xi:rows.length=len:=by rw[e7];simp
       have hlb:len*1<=len*te.size:=Nat.mul_le_mul_left _ (by omega);have aaD:len<2^60:=by omega
       obtain⟨β',S',f1,f2,f3,f4⟩:=e2.Ao (slot:=slot) (by rw[JC];exact hs) hf (w':=w.alloc (.cells arr el)) (cells:=arr) (el:=el) (rows:=rows) (size:=te.size) (cap:=len) (g:=true) (fz:=false) rfl rfl rfl rfl e6 (by omega) (by omega) (by omega) (by rw[e5.1,xi]) ⟨by rw[List.length_take];simp[e5.1],fun i j t ht=>by
        obtain⟨v,q1,q2⟩:=e5.2 i j t ht;obtain⟨_,_,bH⟩:=gE e6 ht;exact⟨v,by rw[List.getElem?_take,if_pos bH];simpa using q1,q2⟩⟩
       rw[xi]at f3
       by_cases h0:len=0
       ·subst h0
        have Mp:rows=[]:=List.eq_nil_of_length_eq_zero xi;refine⟨_,β',S',_,.value (.slice (some ⟨w.heap.size,0,none⟩) 0 0),?_,.inl rfl,f1,by rw[Er];exact f2,f3⟩;have ha:arr=#[]:=Array.eq_empty_of_size_eq_zero (by rw[e5.1,Mp];simp);subst ha;simp only[Nat.zero_mul]at e4;simp only[execOp,ho,Instr.buildSlice,run_underlying (dB.slice hk),Sem.run_bind,Result.andThen,dS.sizeOf,Nat.zero_mul,Sem.run_ite,Sem.run_pure]
        have Hq:Array.range 0=#[]:=rfl;have hrz:Array.map (fun x=>(#[]:Array Value)[x%(#[]:Array Value).size]!) (Array.range 0)=Array.map (fun x=>z'.cells[x%z'.cells.size]!) (Array.range 0):=by rw[Hq];simp only[Array.map_empty]
        rw[if_neg (by omega)];simp only[if_true,Sem.run_pure,hrz,e4,newRow,run_newObj,Sem.run_bind,Result.andThen];rfl
       ·have cL:=run_buildSlice (P:=P) w t el len (parts.map fun(i,x)=>(i,a.eval x)) arr ie z' (dB.slice hk) i1 i2 (by rw[i3];omega) (fun hh=>by rcases Nat.mul_eq_zero.1 hh with q|q;exact h0 q;exact SI (by rw[<-i3];exact q)) (by rw[i3];exact e4)
        refine⟨_,β',S',_,.value (.slice (some ⟨w.heap.size,0,none⟩) len len),?_,.inl rfl,f1,by rw[Er];exact f2,f3⟩;simp only[execOp,ho,Sem.run_bind,cL,Result.andThen,Sem.run_pure]
      ·cases he
    ·cases he
   ·cases he
  ·cases he
 ·cases he
theorem va {kd:TypeDesc} {key:Value} {tv:Tree} (hs:∀x b,sameKey key x=some b->Instr.sameNow kd key x=some b) :
  ∀(cF me:List (Value×Tree)) (es:List MapEntry) (i:Nat),fq key tv cF=some me->es.length=cF.length ->
  (∀(i:Nat) (k:Value) (t:Tree),cF[i]?=some (k,t)->∃e:MapEntry,es[i]?=some e/\e.key=k/\dF S w t e.val) ->
  (Instr.findNow kd key es i=some none/\me=cF ++ [(key,tv)]) ∨
  (∃(j:Nat) (e:MapEntry),Instr.findNow kd key es i=some (some (i+j,e.val))/\es[j]?=some e/\sameKey key e.key=some true/\me=cF.set j (key,tv))
 | [],me,es,i,h,hl,_=>by
  simp[fq]at h;subst h;have:es=[]:=List.eq_nil_of_length_eq_zero (by simpa using hl);subst this;exact .inl ⟨by simp[Instr.findNow],rfl⟩
 | (k,t)::cF,me,[],_,_,hl,_=>by simp at hl
 | (k,t)::cF,me,e::es,i,h,hl,hr=>by
  obtain⟨e',OW,Hj,de⟩:=hr 0 k t rfl;simp at OW;subst OW;unfold fq at h;simp only at h;split at h
  ·rename_i I0
   cases h;have:=hs _ _ I0;refine .inr ⟨0,e,?_,rfl,by rw[Hj];exact I0,rfl⟩;simp[Instr.findNow,Hj,this]
  ·rename_i I0
   have hn:=hs _ _ I0;obtain⟨r,na,rfl⟩:=Option.map_eq_some_iff.1 h;rcases va hs cF r es (i+1) na (by simpa using hl) (fun j k' t' hj=>by simpa using hr (j+1) k' t' (by simpa using hj)) with⟨h1,rfl⟩|⟨j,e0,h1,h2,h3,rfl⟩
   ·exact .inl ⟨by simp only[Instr.findNow,Hj,hn];exact h1,rfl⟩
   ·exact .inr ⟨j+1,e0,by simp only[Instr.findNow,Hj,hn];rw[h1];congr 3;omega,by simpa using h2,h3,rfl⟩
  ·cases h
theorem CI (a b:ByteArray):(a==b)=true↔a=b:=by
 show(a.data==b.data)=true↔_
 rw[beq_iff_eq];constructor
 ·intro h;cases a;cases b;simp only at h;rw[h]
 ·intro h;rw[h]
theorem sameKey_eq {x y:Value} (h:sameKey x y=some true):x=y/\∀n,Instr.sameBits n y x=true:=by
 unfold sameKey at h;split at h
 ·split at h
  ·rename_i hk;subst hk
   simp only[Option.some.injEq,beq_iff_eq]at h;subst h;exact⟨rfl,fun n=>by cases n<;>simp[Instr.sameBits]⟩
  ·cases h
 ·simp only[Option.some.injEq,CI]at h;subst h
  exact⟨rfl,fun n=>by cases n<;>simp[Instr.sameBits,CI]⟩
 ·simp only[Option.some.injEq,beq_iff_eq]at h;subst h
  exact⟨rfl,fun n=>by cases n<;>simp[Instr.sameBits]⟩
 ·cases h
theorem CJ (hC:bt P C) (h:Sat K β S st a w) {t:TypeId} {x i v:Operand} (ho:o.op=.mapUpdate t x i v)
  (he:evalOp C slot st.get (look st.heap) (.mapUpdate t x i v)=some e):nG P K β S st a w slot o e:=by
 simp only[evalOp]at he;have hx:=h.get x;have hi:=h.get i;have hv:=h.get v;split at he
 ·rename_i ti cB
  have dB:=iw (hC t ti cB);split at he
  ·rename_i k el b key tv hk Ak I1 SJ
   rw[Ak]at hx;rw[I1]at hi;rw[SJ]at hv;obtain⟨hi,_⟩:=hi.scalar;cases hv with|c hv=>
   cases hv with|t hv=>
   cases hx with|c hx=>
   generalize dW:a.eval x=av at hx;cases hx with|mp R hR=>
   split at he
   ·rename_i cF tk hb il
    have OX:=iw (hC _ tk il);obtain⟨R',h6,h7,WJ,WK⟩:=h.aR b _ hb;rw[hR]at h6;cases h6;obtain⟨hB,es,clock,h8,h9,Gm⟩:=h7;split at he
    ·cases he
    ·rename_i jP
     have SK:iE tk.kind key=true:=by simpa using jP
     obtain⟨kd,UZ,Mk,Al⟩:=tc OX SK;split at he
     ·rename_i me hse
      cases he;have iF:(getObj R.cb).run P w=.ok (.map es clock) w:=by simp[getObj,Sem.run,h8]
      have Ml:=Al false 9999 w;have bH:R.cb<w.heap.size:=(WJ R.cb 0 ⟨rfl,trivial⟩).1;have jj:∀ob,(setObj R.cb ob).run P w=.ok () { w with heap:=w.heap.setIfInBounds R.cb ob }:=by
       intro ob;simp[setObj,Sem.run,h8]
      have fin:∀(Gk:Array MapEntry) (mf:Nat),Gk.size=me.length->(∀(i:Nat) (k:Value) (t:Tree),me[i]?=some (k,t)->∃e:MapEntry,Gk[i]?=some e/\e.key=k/\dF S w t e.val) ->
        (execOp a.eval o).run P w=.ok .skip { w with heap:=w.heap.setIfInBounds R.cb (.map Gk mf) }->nG P K β S st a w slot o { wr:=[(b,some (.map me))],rd:=[b] }:=by
       intro Gk mf dG iR cL;have hk:eK (fun c _=>c=R.cb) w { w with heap:=w.heap.setIfInBounds R.cb (.map Gk mf) }:=by
        refine⟨rfl,rfl,rfl,by simp,fun q ob hq=>?_⟩;show fk _ q ob ((w.heap.setIfInBounds R.cb (.map Gk mf))[q]?)
        rw[Array.getElem?_setIfInBounds]
        by_cases hqc:R.cb=q
        ·subst hqc
         rw[if_pos rfl,if_pos bH];rw[h8]at hq;cases hq;exact⟨Gk,mf,rfl,fun hn=>absurd rfl (hn 0)⟩
        ·rw[if_neg hqc,hq];exact fk.refl _ _ _
       have hold:∀c o,S c o->(World.cell? { w with heap:=w.heap.setIfInBounds R.cb (.map Gk mf) } ⟨c,o,none⟩)=w.cell? ⟨c,o,none⟩:=fun c o hs=>(hk.cell (h.rH c o hs) fun e=>WK c o ⟨e,trivial⟩ hs).1
       refine⟨_,β,S,undef,.skip,cL,.inr ⟨rfl,rfl⟩,fun _ _=>rfl,?_,.aj _⟩;refine h.step (fun b'=>b'=b) hk (fun c o hc bH=>⟨WK c o ⟨hc,trivial⟩,(WJ c o ⟨hc,trivial⟩).2,fun b' aR R1 hD bK I4 hy=>?_⟩) (fun _ _ hx=>hx) (fun b' R' bK=>by rw[JC];exact h.top b' R' bK) (fun _ _ hx=>hx) (fun _ _ hx=>.inl hx) (fun b' aR hD bK=>?_) (fun b' aR hD bK=>?_)
       ·exact h.kX b b' _ aR R R1 (Ne.symm hD) hb bK hR I4 c o ⟨hc,trivial⟩ hy
       ·simp only[dZ,List.foldl_cons,List.foldl_nil]at bK
        rw[rS hD]at bK;exact bK
       ·subst hD
        simp only[dZ,List.foldl_cons,List.foldl_nil]at bK;rw[xO (rQ hb)]at bK;cases bK;refine⟨R,hR,⟨hB,Gk,mf,?_,dG,fun i k t hi=>?_⟩,fun c o hy=>?_,fun c o hy=>WK c o hy,fun Cy gY uU cY iG lH c o hy=>?_⟩
        ·show(w.heap.setIfInBounds R.cb (.map Gk mf))[R.cb]?=_
         rw[Array.getElem?_setIfInBounds,if_pos rfl,if_pos bH]
        ·obtain⟨e,q1,q2,q3⟩:=iR i k t hi
         exact⟨e,q1,q2,q3.mono (fun _ _ hx=>hx) hold⟩
        ·obtain⟨q1,q2⟩:=WJ c o hy
         exact⟨by simpa using q1,q2⟩
        ·simp only[dZ,List.foldl_cons,List.foldl_nil]at iG
         rw[rS cY]at iG;exact h.kX _ _ _ _ R uU (Ne.symm cY) hb iG hR lH c o hy
      rcases va (S:=S) (w:=w) Mk cF me es.toList 0 hse (by simpa using h9) (fun i k t hi=>by obtain⟨e,q1,q2⟩:=Gm i k t hi;exact⟨e,by simpa using q1,q2⟩) with⟨iN,rfl⟩|⟨j,e0,iN,hej,I0,rfl⟩
      ·refine fin (es.push { key,val:=a.eval v,born:=clock }) (clock+1) (by simp[h9]) (fun i k t hi=>?_) ?_
       ·rw[List.getElem?_append]at hi
        split at hi
        ·rename_i rT
         obtain⟨e,q1,q2⟩:=Gm i k t hi;exact⟨e,by rw[Array.getElem?_push,if_neg (by omega)];exact q1,q2⟩
        ·rename_i Ef
         have:i=cF.length:=by
          have:=ta hi;simp at this;omega
         subst this;simp at hi;obtain⟨rfl,rfl⟩:=hi;exact⟨_,by rw[Array.getElem?_push,if_pos h9.symm],rfl,hv⟩
       ·simp only[execOp,ho,Instr.mapUpdate,run_underlying (dB.map hk),dW,hi,Sem.run_bind,Sem.run_pure,Result.andThen,iF,Ml,Instr.findKey,run_underlying UZ,iN,jj]
      ·obtain⟨Hj,SL⟩:=sameKey_eq I0
       refine fin (es.modify j fun e=>{ e with key,val:=a.eval v }) clock (by simp[h9]) (fun i k t hi=>?_) ?_
       ·rw[List.getElem?_set]at hi
        split at hi
        ·rename_i WL
         subst WL;split at hi
         ·cases hi
          exact⟨_,by rw[Array.getElem?_modify,if_pos rfl,show es[j]?=some e0 by simpa using hej];rfl,rfl,hv⟩
         ·cases hi
        ·rename_i WL
         obtain⟨e,q1,q2⟩:=Gm i k t hi;exact⟨e,by rw[Array.getElem?_modify,if_neg WL];exact q1,q2⟩
       ·have WM:es[j]?=some e0:=by simpa using hej
        rw[Nat.zero_add]at iN;simp only[execOp,ho,Instr.mapUpdate,run_underlying (dB.map hk),dW,hi,Sem.run_bind,Sem.run_pure,Result.andThen,iF,Ml,Instr.findKey,run_underlying UZ,iN,WM,Option.map_some,Option.getD_some,Instr.keyThatStays,SL,if_true,Nat.zero_add,jj]
     ·cases he
   ·cases he
  ·cases he
 ·cases he
end
inductive TV where
 | c (t:Tree)
 | agg (l:List Tree)
 deriving Inhabited
def TV.av:TV->AV
 | .c t=>.c (.t t)
 | .agg l=>.agg (l.map .t)
inductive Arg where
 | val (x:TV)
 | eP (sz:Nat) (rows:List (List Tree))
 | own (sz:Nat) (rows:List (List Tree))
 | ref (cells:List Tree)
 | dj (f:FuncId) (a8:List (Nat×Nat×Nat))
 | gh (cells:List Tree)
 deriving Inhabited
def jS:List Arg->Nat
 | []=>0
 | .gh _::_=>0
 | _::as=>jS as+1
def Arg.aR:Arg->Option aU
 | .val _=>none
 | .eP sz rows=>some (.rows sz rows false false)
 | .own sz rows=>some (.rows sz rows true false)
 | .ref cells=>some (.var (cells.map .t))
 | .dj _ _=>none
 | .gh cells=>some (.var (cells.map .t))
inductive RC where
 | val (x:TV)
 | own (sz:Nat) (rows:List (List Tree))
 deriving Inhabited
structure lJ where
 bn:List RC
 out:List (Option aU)
abbrev CK:Nat->Option bS:=fun _=>none
def Hs (R:bS) (n:Nat) (v:Value):Prop:=∃base,v=.slice base n R.cap/\(0<R.cap->base=some ⟨R.cb,R.co,none⟩)
def NT (S:Place) (w:World) (R:bS):Arg->Value->Prop
 | .val x,v=>aY CK S w x.av v
 | .eP sz rows,v=>Hs R rows.length v/\dR CK S w 0 R (.rows sz rows false false)
 | .own sz rows,v=>Hs R rows.length v/\dR CK S w 0 R (.rows sz rows true false)
 | .ref cells,v=>v=.pointer (some ⟨R.cb,R.co,none⟩)/\dR CK S w 0 R (.var (cells.map .t))
 | .dj _ _,_=>True
 | .gh cells,v=>v=.pointer (some ⟨R.cb,R.co,none⟩)/\dR CK S w 0 R (.var (cells.map .t))
def βA (args:List Arg) (Rs:Nat->bS):Nat->Option bS:=fun i=>if((args[i]?).bind Arg.aR).isSome then some (Rs i) else none
def SM (S:Place) (w:World) (R:bS):RC->Value->Prop
 | .val x,v=>aY CK S w x.av v
 | .own sz rows,v=>Hs R rows.length v/\dR CK S w 0 R (.rows sz rows true false)
def mg (args:List Arg) (Rs:Nat->bS):Place:=fun c o=>∃(i:Nat) (arg:Arg) (aR:aU),args[i]?=some arg/\arg.aR=some aR/\aR.ext (Rs i) c o
structure ng (args:List Arg) (S:Place) (w:World) (bn:List Value) (Rs:Nat->bS):Prop where
 len:bn.length=args.length
 ok:∀(i:Nat) (arg:Arg),args[i]?=some arg->∃v,bn[i]?=some v/\NT S w (Rs i) arg v
 rH:∀c o,S c o->c<w.heap.size
 ext:∀(i:Nat) (arg:Arg) (aR:aU),args[i]?=some arg->arg.aR=some aR->(∀c o,aR.ext (Rs i) c o->c<w.heap.size)/\(∀c o,aR.wr (Rs i) c o->¬S c o)
 kX:∀(i j:Nat) (x y:Arg) (b b':aU),i≠j->args[i]?=some x->args[j]?=some y->x.aR=some b->y.aR=some b'->∀c o,b.ext (Rs i) c o->¬b'.ext (Rs j) c o
 dj:∀(i:Nat) (f:FuncId) (a8:List (Nat×Nat×Nat)) (v:Value),args[i]?=some (.dj f a8)->bn[i]?=some v->dd (βA args Rs) S w (.dj f a8) v
structure fh (args:List Arg) (res:lJ) (S:Place) (w:World) (Rs:Nat->bS) (v:Value) (w':World):Prop where
 p:∃(S':Place) (Rr:Nat->bS) (vs:List Value),vs.length=res.bn.length/\v=(if vs.length=1 then vs.getD 0 undef else .tuple vs.toArray) /\
  eK (mg args Rs) w w'/\(∀c o,S c o->S' c o)/\(∀c o,S' c o->S c o∨(c<w'.heap.size/\(w.heap.size<=c∨mg args Rs c o))) /\
  (∀(k:Nat) (r:RC),res.bn[k]?=some r->∃u,vs[k]?=some u/\SM S' w' (Rr k) r u) /\
  (∀(k sz:Nat) (rows:List (List Tree)),res.bn[k]?=some (.own sz rows)->(∀c o,(aU.rows sz rows true false).ext (Rr k) c o->c<w'.heap.size/\(w.heap.size<=c∨mg args Rs c o))/\(∀c o,(aU.rows sz rows true false).wr (Rr k) c o->¬S' c o)) /\
  (∀(k l sz ke:Nat) (rows dh:List (List Tree)),k≠l->res.bn[k]?=some (.own sz rows)->res.bn[l]?=some (.own ke dh)->∀c o,(aU.rows sz rows true false).ext (Rr k) c o->¬(aU.rows ke dh true false).ext (Rr l) c o) /\
  (∀(i:Nat) (aR:aU),res.out[i]?=some (some aR)->∃arg b0,args[i]?=some arg/\arg.aR=some b0/\(∀c o,aR.ext (Rs i) c o->b0.ext (Rs i) c o)/\dR CK S' w' 0 (Rs i) aR/\(∀c o,aR.wr (Rs i) c o->¬S' c o) /\
   ∀(k sz:Nat) (rows:List (List Tree)),res.bn[k]?=some (.own sz rows)->∀c o,aR.ext (Rs i) c o->¬(aU.rows sz rows true false).ext (Rr k) c o)
def aA (P:Program) (f:FuncId) (args:List Arg) (res:lJ):Prop:=
 (∃fn,P.funcs[f]?=some fn/\fn.body.isSome=true/\(fn.name == "runtime.NumGoroutine")=false)/\∀(S:Place) (w:World) (bn:List Value) (Rs:Nat->bS),ng args S w bn Rs ->
  Calls P f (bn.take (jS args)).toArray w fun e w'=>∃v,e=.returned v/\fh args res S w Rs v w'
inductive bI where
 | none
 | eP (b off len:Nat)
 | own (b:Nat)
 | ref (b:Nat)
 deriving Inhabited
def vc (h:Hp):AV->Option (TV×List (Nat×Option aU))
 | .c c=>(toTree h c).map fun p=>(.c p.1,p.2)
 | .agg l=>(bL h l).map fun p=>(.agg p.1,p.2)
 | _=>none
def dQ (h:Hp):Mode->AV->Option (Arg×List (Nat×Option aU)×bI)
 | .val,.c (.dj f a8)=>some (.dj f a8,[],.none)
 | .val,x=>(vc h x).map fun p=>(.val p.1,p.2,.none)
 | .eP,.c (.sl b off len false)=>match h b with
  | some (.rows sz rows _ false)=>if off+len<=rows.length then some (.eP sz ((rows.drop off).take len),[],.eP b off len) else none
  | _=>none
 | .own sz,.c (.sl b 0 len false)=>match h b with
  | some (.rows ke rows true false)=>if ke=sz/\len=rows.length then some (.own sz rows,[],.own b) else none
  | _=>none
 | .own sz,.c (.t (.aa true []))=>some (.own sz [],[],.none)
 | .rd,.c (.sl b off len false)=>match h b with
  | some (.rows sz rows _ false)=>if off+len<=rows.length then some (.eP sz ((rows.drop off).take len),[],.eP b off len) else none
  | _=>none
 | .rd,x=>(vc h x).map fun p=>(.val p.1,p.2,.none)
 | .ref,.c (.ptr b 0 0)=>match h b with
  | some (.var cells)=>match bL h cells with
   | some (ts,[])=>some (.ref ts,[],.ref b)
   | _=>none
  | _=>none
 | _,_=>none
def cD (h:Hp):List Mode->List AV->Option (List Arg×List (Nat×Option aU)×List bI)
 | [],[]=>some ([],[],[])
 | m::ms,x::xs=>match dQ h m x,cD h ms xs with
  | some (a,k,b),some (as,ks,bs)=>some (a::as,k++ks,b::bs)
  | _,_=>none
 | _,_=>none
def oO:List (Nat×Nat×Nat)->List Nat->List Nat
 | [],acc=>acc
 | (b,_,_)::l,acc=>match acc.contains b with
  | true=>oO l acc
  | false=>oO l (acc ++ [b])
def oa:List Arg->List Nat->List Nat
 | [],acc=>acc
 | .dj _ a8::as,acc=>oa as (oO a8 acc)
 | _::as,acc=>oa as acc
def posOf (b:Nat):List Nat->Nat
 | []=>0
 | x::l=>match Nat.beq b x with
  | true=>0
  | false=>posOf b l+1
def Aw (gs:List Nat) (n:Nat):List (Nat×Nat×Nat)->List (Nat×Nat×Nat)
 | []=>[]
 | (b,r,c)::l=>(n+posOf b gs,r,c)::Aw gs n l
def oP (gs:List Nat) (n:Nat):List Arg->List Arg
 | []=>[]
 | .dj f a8::as=>.dj f (Aw gs n a8)::oP gs n as
 | a::as=>a::oP gs n as
def jF (h:Hp):List Nat->Option (List Arg)
 | []=>some []
 | b::l=>match h b with
  | some (.var cells)=>match bL h cells,jF h l with
   | some (ts,[]),some as=>some (.gh ts::as)
   | _,_=>none
  | _=>none
def qk:List Nat->List bI
 | []=>[]
 | b::l=>.ref b::qk l
def eh (h:Hp) (ms:List Mode) (xs:List AV):Option (List Arg×List (Nat×Option aU)×List bI):=
 match cD h ms xs with
 | none=>none
 | some (as,ks,bs)=>match oa as []with
  | []=>some (as,ks,bs)
  | g::gs=>match jF h (g::gs) with
   | some xT=>some (oP (g::gs) as.length as++xT,ks,bs++qk (g::gs))
   | none=>none
def bI.id:bI->Option Nat
 | .none=>Option.none
 | .eP b _ _=>some b
 | .own b=>some b
 | .ref b=>some b
def dk (h:Hp):List bI->List (Option aU)->Option (List (Nat×Option aU))
 | [],[]=>some []
 | .none::bs,_::os=>dk h bs os
 | .own b::bs,_::os=>(dk h bs os).map ((b,none) :: ·)
 | .eP b off len::bs,some (.rows sz r false false)::os=>match h b with
  | some (.rows ke rows g false)=>if ke=sz/\r.length=len then(dk h bs os).map ((b,some (.rows ke (bG rows off r) g false)) :: ·) else none
  | _=>none
 | .ref b::bs,some (.var cs)::os=>match h b with
  | some (.var fR)=>if cs.length=fR.length then(dk h bs os).map ((b,some (.var cs)) :: ·) else none
  | _=>none
 | _,_=>none
def TV.scalar:TV->Bool
 | .c (.v _)=>true
 | .agg l=>l.all fun|.v _=>true|_=>false
 | _=>false
def RC.scalar:RC->Bool
 | .val x=>x.scalar
 | _=>false
def dK (slot:Nat):List RC->List AV×List (Nat×Option aU)
 | []=>([],[])
 | .val x::rs=>let p:=dK slot rs;(x.av::p.1,p.2)
 | .own sz rows::rs=>let p:=dK (slot+1) rs;(.c (.sl slot 0 rows.length false)::p.1,(slot,some (.rows sz rows true false))::p.2)
def EX (l:List AV):AV:=match l with
 | [x]=>x
 | l=>.oD l
def RC.mh:RC->Bool
 | .own _ _=>true
 | _=>false
def fU (h:Hp) (slot:Nat) (marks:List (Nat×Option aU)) (dE:List bI) (res:lJ):Option bZ:=
 let ids:=dE.filterMap bI.id
 if(res.bn.all RC.scalar)&&ids.isEmpty then some { val:=EX (dK slot res.bn).1,rd:=Go.Abs.ids marks }
 else if !(ids.all fun i=>!((Go.Abs.ids marks).contains i)) || !decide ids.Nodup || !decide ((res.bn.filter RC.mh).length<=2) then none
 else match dk h dE res.out with
  | some bw=>some { val:=EX (dK slot res.bn).1,wr:=marks++bw++(dK slot res.bn).2,rd:=Go.Abs.ids marks++ids }
  | none=>none
section
variable {P:Program} {C:dP} {K:Ctx} {β:Nat->Option bS} {S:Place} {st:St} {a:Act} {w:World} {slot:Nat} {e:bZ} {o:Oper} {f:FuncId}
inductive iS (β:Nat->Option bS) (heap:bM) (S:Place) (w:World):Arg->bI->bS->Value->Prop where
 | val {x:TV} {R:bS} {v:Value}:aY CK S w x.av v->iS β heap S w (.val x) .none R v
 | eP {sz b off len:Nat} {rows:List (List Tree)} {g:Bool} {R:bS} {v:Value}:look heap b=some (.rows sz rows g false)->β b=some R->off+len<=rows.length ->
   Hs ⟨R.cb,R.co+off*R.af,R.af,R.cap-off⟩ len v->iS β heap S w (.eP sz ((rows.drop off).take len)) (.eP b off len) ⟨R.cb,R.co+off*R.af,R.af,R.cap-off⟩ v
 | own {sz b:Nat} {rows:List (List Tree)} {R:bS} {v:Value}:look heap b=some (.rows sz rows true false)->β b=some R->Hs R rows.length v->iS β heap S w (.own sz rows) (.own b) R v
 | nil {sz:Nat} {v:Value}:Hs ⟨0,0,sz,0⟩ 0 v->iS β heap S w (.own sz []) .none ⟨0,0,sz,0⟩ v
 | ref {b:Nat} {ts:List Tree} {R:bS} {v:Value}:look heap b=some (.var (ts.map .t))->β b=some R->v=.pointer (some ⟨R.cb,R.co,none⟩)->iS β heap S w (.ref ts) (.ref b) R v
 | dj {f:FuncId} {a8:List (Nat×Nat×Nat)} {R:bS} {v:Value}:iS β heap S w (.dj f a8) .none R v
 | gh {b:Nat} {ts:List Tree} {R:bS} {v:Value}:look heap b=some (.var (ts.map .t))->β b=some R->v=.pointer (some ⟨R.cb,R.co,none⟩)->iS β heap S w (.gh ts) (.ref b) R v
theorem iS.mono {heap:bM} {S S':Place} {x:Arg} {b:bI} {R:bS} {v:Value} (h:iS β heap S w x b R v) (hS:∀c o,S c o->S' c o):iS β heap S' w x b R v:=by
 cases h with
 | val h=>exact .val (h.mono (fun _ _ hx=>hx) hS fun _ _ _=>rfl)
 | eP h1 h2 h3 h4=>exact .eP h1 h2 h3 h4
 | own h1 h2 h3=>exact .own h1 h2 h3
 | nil h1=>exact .nil h1
 | ref h1 h2 h3=>exact .ref h1 h2 h3
 | dj=>exact .dj
 | gh h1 h2 h3=>exact .gh h1 h2 h3
theorem CL {cur:bM} (h:Sat K β S ⟨st.tmps,cur⟩ a w) (hm:dT st.heap cur) {x:AV} {v:Value} (hx:aY β S w x v) {tv:TV} {m:List (Nat×Option aU)} (ht:vc (look st.heap) x=some (tv,m)) :
  ∃S',(∀c o,S c o->S' c o)/\Sat K β S' ⟨st.tmps,dZ cur m⟩ a w/\dT st.heap (dZ cur m)/\aY CK S' w tv.av v:=by
 unfold vc at ht;split at ht
 ·obtain⟨p,h1,h2⟩:=Option.map_eq_some_iff.1 ht
  cases h2;cases hx with|c hx=>
  obtain⟨S',e1,e2,e3,e4⟩:=oM h hm hx h1;exact⟨S',e1,e2,e3,.c (.t e4)⟩
 ·obtain⟨p,h1,h2⟩:=Option.map_eq_some_iff.1 ht
  cases h2;obtain⟨vs,rfl,hl,hr⟩:=hx.Ah;obtain⟨S',e1,e2,e3,e4,e5⟩:=fD _ vs cur S _ _ h hm hl hr h1;refine⟨S',e1,e2,e3,.agg vs (by simp[TV.av,e4,hl]) fun i c hi=>?_⟩;obtain⟨t,ht,rfl⟩:=qb hi;obtain⟨u,q1,q2⟩:=e5 i t ht;exact⟨u,q1,.t q2⟩
 ·cases ht
theorem SN {h:Hp}:∀ {cs:List Cell} {ts:List Tree} {m:List (Nat×Option aU)},bL h cs=some (ts,m)->m=[]->cs=ts.map .t
 | [],ts,m,h1,_=>by simp[bL]at h1;rw[h1.1];rfl
 | c::cs,ts,m,h1,hm=>by
  unfold bL at h1;split at h1
  ·rename_i t m1 ht
   split at h1
   ·rename_i Mt m2 tg
    cases h1;simp at hm;have:=SN tg hm.2;subst this;unfold toTree at ht;split at ht
    ·cases ht;rfl
    ·split at ht
     ·split at ht
      ·cases ht;simp at hm
      ·cases ht
     ·cases ht
    ·cases ht
   ·cases h1
  ·cases h1
theorem CM {cur:bM} (h:Sat K β S ⟨st.tmps,cur⟩ a w) (h0:∀b aR,look st.heap b=some aR->∃R,β b=some R) (hm:dT st.heap cur) {md:Mode} {x:AV} {v:Value} (hx:aY β S w x v) {arg:Arg} {m:List (Nat×Option aU)} {bk:bI} (ht:dQ (look st.heap) md x=some (arg,m,bk)) :
  ∃S' R,(∀c o,S c o->S' c o)/\Sat K β S' ⟨st.tmps,dZ cur m⟩ a w/\dT st.heap (dZ cur m)/\iS β st.heap S' w arg bk R v:=by
 unfold dQ at ht;split at ht
 ·cases ht
  exact⟨S,⟨0,0,0,0⟩,fun _ _ hx=>hx,h,hm,.dj⟩
 ·obtain⟨p,h1,h2⟩:=Option.map_eq_some_iff.1 ht
  cases h2;obtain⟨S',e1,e2,e3,e4⟩:=CL h hm hx h1;exact⟨S',⟨0,0,0,0⟩,e1,e2,e3,.val e4⟩
 ·rename_i b off len
  split at ht
  ·rename_i sz rows g hb
   split at ht
   ·rename_i hle
    cases ht;cases hx with|c hx=>
    cases hx with|sl R base cap hR h1 h2 h3 h4 h5=>
    have hc:=h2 rfl;exact⟨S,_,fun _ _ hx=>hx,h,hm,.eP hb hR hle ⟨base,by simp;omega,fun h0=>h5 (by simp at h0;omega)⟩⟩
   ·cases ht
  ·cases ht
 ·rename_i sz b len
  split at ht
  ·rename_i ke rows hb
   split at ht
   ·rename_i hc
    obtain⟨rfl,rfl⟩:=hc;cases ht;cases hx with|c hx=>
    cases hx with|sl R base cap hR h1 h2 h3 h4 h5=>
    have hc:=h2 rfl;rw[Nat.zero_add]at hc;exact⟨S,_,fun _ _ hx=>hx,h,hm,.own hb hR ⟨base,by rw[hc],fun h0=>by have:=h5 (by omega);simpa using this⟩⟩
   ·cases ht
  ·cases ht
 ·rename_i sz
  cases ht;cases hx with|c hx=>
  cases hx with|t hx=>
  generalize hr:([]:List (List Tree))=rows at hx;cases hx with|aa _ _ base cb co af cap val h1 h2 h3 h4 h5 NL h6 h7 h8=>
  subst hr;refine⟨S,_,fun _ _ hx=>hx,h,hm,.nil ⟨base,?_,by simp⟩⟩;simp[h4 rfl]
 ·rename_i b off len
  split at ht
  ·rename_i sz rows g hb
   split at ht
   ·rename_i hle
    cases ht;cases hx with|c hx=>
    cases hx with|sl R base cap hR h1 h2 h3 h4 h5=>
    have hc:=h2 rfl;exact⟨S,_,fun _ _ hx=>hx,h,hm,.eP hb hR hle ⟨base,by simp;omega,fun h0=>h5 (by simp at h0;omega)⟩⟩
   ·cases ht
  ·cases ht
 ·obtain⟨p,h1,h2⟩:=Option.map_eq_some_iff.1 ht
  cases h2;obtain⟨S',e1,e2,e3,e4⟩:=CL h hm hx h1;exact⟨S',⟨0,0,0,0⟩,e1,e2,e3,.val e4⟩
 ·rename_i b
  split at ht
  ·rename_i cells hb
   split at ht
   ·rename_i ts tg
    cases ht;cases hx with|c hx=>
    cases hx with|ptr R hR=>
    have:=SN tg rfl;subst this;exact⟨S,R,fun _ _ hx=>hx,h,hm,.ref hb hR (by simp)⟩
   ·cases ht
  ·cases ht
 ·cases ht
theorem kl (h0:∀b aR,look st.heap b=some aR->∃R,β b=some R):∀(ms:List Mode) (xs:List AV) (bn:List Value) (cur:bM) (S:Place) (args:List Arg) (m:List (Nat×Option aU)) (dE:List bI),Sat K β S ⟨st.tmps,cur⟩ a w->dT st.heap cur ->
  bn.length=xs.length->(∀(i:Nat) (x:AV),xs[i]?=some x->∃v,bn[i]?=some v/\aY β S w x v)->cD (look st.heap) ms xs=some (args,m,dE) ->
  ∃S',(∀c o,S c o->S' c o)/\Sat K β S' ⟨st.tmps,dZ cur m⟩ a w/\dT st.heap (dZ cur m)/\args.length=xs.length/\dE.length=xs.length /\
   ∃Rs:Nat->bS,∀(i:Nat) (x:Arg),args[i]?=some x->∃b v,dE[i]?=some b/\bn[i]?=some v/\iS β st.heap S' w x b (Rs i) v
 | [],[],bn,cur,S,args,m,dE,h,hm,_,_,ht=>by
  simp[cD]at ht;obtain⟨rfl,rfl,rfl⟩:=ht;exact⟨S,fun _ _ hx=>hx,h,hm,rfl,rfl,fun _=>⟨0,0,0,0⟩,by simp⟩
 | [],_::_,_,_,_,_,_,_,_,_,_,_,ht=>by simp[cD]at ht
 | _::_,[],_,_,_,_,_,_,_,_,_,_,ht=>by simp[cD]at ht
 | md::ms,x::xs,[],_,_,_,_,_,_,_,hl,_,_=>by simp at hl
 | md::ms,x::xs,v::bn,cur,S,args,m,dE,h,hm,hl,hr,ht=>by
  unfold cD at ht;split at ht
  ·rename_i a1 k1 b1 as ks bs h1 h2
   cases ht;obtain⟨v',rK,hx⟩:=hr 0 x rfl;simp at rK;subst rK;obtain⟨S1,R1,e1,e2,e3,e4⟩:=CM h h0 hm hx h1;obtain⟨S2,f1,f2,f3,f4,f5,Rs,f6⟩:=kl h0 ms xs bn _ S1 _ _ _ e2 e3 (by simpa using hl) (fun i y hi=>by
    obtain⟨u,q1,q2⟩:=hr (i+1) y (by simpa using hi);exact⟨u,by simpa using q1,q2.mono (fun _ _ hx=>hx) e1 fun _ _ _=>rfl⟩) h2
   refine⟨S2,fun c o hx=>f1 _ _ (e1 _ _ hx),by rw[Er];exact f2,by rw[Er];exact f3,by simp[f4],by simp[f5],fun i=>match i with|0=>R1|i+1=>Rs i,fun i y hi=>?_⟩;cases i with
   | zero=>simp at hi;subst hi;exact⟨b1,v,rfl,rfl,e4.mono f1⟩
   | succ i=>simpa using f6 i y (by simpa using hi)
  ·cases ht
theorem I7 {b:Nat}:∀(m:List (Nat×Option aU)) (h:bM),b ∉ ids m->look (dZ h m) b=look h b
 | [],_,_=>rfl
 | p::m,h,hn=>by
  simp only[ids,List.map_cons,List.mem_cons,not_or]at hn;rw[gZ,I7 m _ hn.2,rS hn.1]
theorem iS.tq {heap:bM} {x:Arg} {b:bI} {R:bS} {v:Value} (hl:iS β heap S w x b R v) (h:Sat K β S ⟨st.tmps,heap⟩ a w) :
  NT S w R x v/\∀aR,x.aR=some aR->(∃bi B RB,b.id=some bi/\look heap bi=some B/\β bi=some RB/\(∀c o,aR.ext R c o->B.ext RB c o)/\(∀c o,aR.wr R c o->B.wr RB c o))∨(b.id=none/\∀c o,¬aR.ext R c o):=by
 cases hl with
 | val hv=>exact⟨hv,fun aR hb=>by cases hb⟩
 | eP hb hR hle hs=>
  rename_i sz b off len rows g R0;obtain⟨R',e1,⟨q0,q1,q2,q3,O9,q4,q5,q6⟩,e4,e5⟩:=h.aR _ _ hb;rw[hR]at e1;cases e1;have Es:((rows.drop off).take len).length=len:=by rw[List.length_take,List.length_drop];omega
  have xL:(off+len)*R0.af<=rows.length*R0.af:=Nat.mul_le_mul_right _ hle;rw[Nat.add_mul]at xL;have Hh:rows.length*R0.af<=(if g=true then R0.cap else rows.length)*R0.af:=Nat.mul_le_mul_right _ (by split<;>omega);refine⟨⟨by rw[Es];exact hs,q0,(fun r hr=>q1 r (qe hr)),(by rw[Es];show len<=R0.cap-off;omega),(by show R0.cap-off<2^63;omega),(by rw[Es];omega),?_,fun i j t ht=>?_,by simp⟩,fun aR oQ=>?_⟩
  ·intro o h1 h2
   simp only[Es,Bool.false_eq_true,if_false]at h2;have NM:R0.co+off*R0.af<=o:=h1;have Gp:o<R0.co+off*R0.af+len*R0.af:=h2;exact q4 o (by omega) (by omega)
  ·obtain⟨u,f1,f2⟩:=q5 _ _ _ (fS ht).2
   refine⟨u,?_,f2⟩;simp only;rw[Nat.add_mul,<-Nat.add_assoc]at f1;exact f1
  ·cases oQ
   refine .inl ⟨_,_,R0,rfl,hb,hR,?_,?_⟩
   ·rintro c o ⟨h1,h2,h3⟩
    simp only[Es,Bool.false_eq_true,if_false]at h2 h3;exact⟨h1,by omega,by omega⟩
   ·rintro c o ⟨h1,h2,h3⟩
    simp only[Es,Bool.false_eq_true,if_false]at h2 h3;exact⟨h1,by simp;omega,by omega⟩
 | own hb hR hs=>
  obtain⟨R',e1,q,e4,e5⟩:=h.aR _ _ hb;rw[hR]at e1;cases e1;refine⟨⟨hs,q⟩,fun aR oQ=>?_⟩;cases oQ;exact .inl ⟨_,_,R,rfl,hb,hR,fun _ _ hx=>hx,fun _ _ hx=>hx⟩
 | nil hs=>
  refine⟨⟨hs,rfl,(fun r hr=>by cases hr),Nat.le_refl _,(by show 0<2^63;omega),(by show 0<2^60;omega),(fun o h1 h2=>absurd h2 (by simp)),(fun i j t ht=>by simp[eJ]at ht),(fun hh=>by cases hh)⟩,fun aR oQ=>?_⟩;cases oQ;refine .inr ⟨rfl,?_⟩
  rintro c o ⟨h1,h2,h3⟩
  simp at h3
 | ref hb hR hv=>
  obtain⟨R',e1,q,e4,e5⟩:=h.aR _ _ hb;rw[hR]at e1;cases e1;refine⟨⟨hv,q.1,fun j c hj=>?_⟩,fun aR oQ=>?_⟩
  ·obtain⟨u,f1,f2⟩:=q.2 j c hj
   obtain⟨t,ht,rfl⟩:=qb hj;refine⟨u,f1,?_⟩;cases f2 with|t f2=>exact .t f2
  ·cases oQ
   exact .inl ⟨_,_,R,rfl,hb,hR,fun _ _ hx=>hx,fun _ _ hx=>hx⟩
 | dj=>exact⟨trivial,fun aR hb=>by cases hb⟩
 | gh hb hR hv=>
  obtain⟨R',e1,q,e4,e5⟩:=h.aR _ _ hb;rw[hR]at e1;cases e1;refine⟨⟨hv,q.1,fun j c hj=>?_⟩,fun aR oQ=>?_⟩
  ·obtain⟨u,f1,f2⟩:=q.2 j c hj
   obtain⟨t,ht,rfl⟩:=qb hj;refine⟨u,f1,?_⟩;cases f2 with|t f2=>exact .t f2
  ·cases oQ
   exact .inl ⟨_,_,R,rfl,hb,hR,fun _ _ hx=>hx,fun _ _ hx=>hx⟩
theorem oR {heap:bM} {args:List Arg} {dE:List bI} {bn:List Value} {Rs:Nat->bS} (h:Sat K β S ⟨st.tmps,heap⟩ a w) (hl:bn.length=args.length) (nH:(dE.filterMap bI.id).Nodup)
  (jT:∀(i:Nat) (x:Arg),args[i]?=some x->∃b v,dE[i]?=some b/\bn[i]?=some v/\iS β heap S w x b (Rs i) v)
  (Mx:∀(i:Nat) (f:FuncId) (a8:List (Nat×Nat×Nat)) (v:Value),args[i]?=some (.dj f a8)->bn[i]?=some v->dd (βA args Rs) S w (.dj f a8) v):ng args S w bn Rs:=by
 refine⟨hl,fun i x hi=>?_,h.rH,fun i x aR hi hb=>?_,fun i j x y b b' CN hi hj hb bK c o h1 h2=>?_,Mx⟩
 ·obtain⟨b,v,_,e2,e3⟩:=jT i x hi
  exact⟨v,e2,(e3.tq h).1⟩
 ·obtain⟨b,v,_,e2,e3⟩:=jT i x hi
  rcases(e3.tq h).2 aR hb with⟨bi,B,RB,f1,f2,f3,f4,f5⟩|⟨_,f2⟩
  ·obtain⟨R',g1,_,g3,g4⟩:=h.aR _ _ f2
   rw[f3]at g1;cases g1;exact⟨fun c o hx=>(g3 c o (f4 c o hx)).1,fun c o hx=>g4 c o (f5 c o hx)⟩
  ·exact⟨fun c o hx=>absurd hx (f2 c o),fun c o hx=>absurd (aU.fb hx) (f2 c o)⟩
 ·obtain⟨b1,v1,e0,_,e1⟩:=jT i x hi
  obtain⟨b2,v2,SO,_,e2⟩:=jT j y hj;rcases(e1.tq h).2 b hb with⟨bi,B,RB,f1,f2,f3,f4,f5⟩|⟨_,f⟩
  ·rcases(e2.tq h).2 b' bK with⟨bi',B',Pk,Rd,f2',f3',f4',f5'⟩|⟨_,f⟩
   ·have cY:bi≠bi':=by
     rintro rfl
     have key:∀(l:List bI) (i j:Nat) (x y:bI),i<j->l[i]?=some x->l[j]?=some y->x.id=some bi->y.id=some bi->¬(l.filterMap bI.id).Nodup:=by
      intro l
      induction l with
      | nil=>intro i j x y _ hi _ _ _;simp at hi
      | cons z l ih=>
       intro i j x y bH hi hj hx hy nH;cases j with
       | zero=>omega
       | succ j=>
        cases i with
        | zero=>
         simp at hi hj;subst hi;rw[List.filterMap_cons,hx]at nH;simp only[List.nodup_cons]at nH;exact nH.1 (List.mem_filterMap.2 ⟨y,List.mem_of_getElem? hj,hy⟩)
        | succ i=>
         refine ih i j x y (by omega) (by simpa using hi) (by simpa using hj) hx hy ?_;rw[List.filterMap_cons]at nH;split at nH
         ·exact nH
         ·exact(List.nodup_cons.1 nH).2
     rcases Nat.lt_or_ge i j with bH|Ef
     ·exact key dE i j b1 b2 bH e0 SO f1 Rd nH
     ·exact key dE j i b2 b1 (by omega) SO e0 Rd f1 nH
    exact h.kX bi bi' B B' RB Pk cY f2 f2' f3 f3' c o (f4 c o h1) (f4' c o h2)
   ·exact f c o h2
  ·exact f c o h1
end
section
variable {P:Program} {C:dP} {K:Ctx} {β:Nat->Option bS} {S:Place} {st:St} {a:Act} {w:World} {slot:Nat} {e:bZ} {o:Oper} {f:FuncId}
theorem iS.heap {h1 h2:bM} {x:Arg} {b:bI} {R:bS} {v:Value} (hl:iS β h1 S w x b R v) (hh:∀bi,b.id=some bi->look h2 bi=look h1 bi):iS β h2 S w x b R v:=by
 cases hl with
 | val h=>exact .val h
 | eP e1 e2 e3 e4=>exact .eP (by rw[hh _ rfl];exact e1) e2 e3 e4
 | own e1 e2 e3=>exact .own (by rw[hh _ rfl];exact e1) e2 e3
 | nil h=>exact .nil h
 | ref e1 e2 e3=>exact .ref (by rw[hh _ rfl];exact e1) e2 e3
 | dj=>exact .dj
 | gh e1 e2 e3=>exact .gh (by rw[hh _ rfl];exact e1) e2 e3
theorem ve {l:List AV} {vs:List Value} (hl:vs.length=l.length) (hr:∀(i:Nat) (x:AV),l[i]?=some x->∃v,vs[i]?=some v/\aY β S w x v) :
  aY β S w (EX l) (if vs.length=1 then vs.getD 0 undef else .tuple vs.toArray):=by
 unfold EX;split
 ·rename_i x
  obtain⟨v,h1,h2⟩:=hr 0 x rfl;rw[if_pos (by simpa using hl)];simpa[List.getD,h1]using h2
 ·rename_i cY
  have:vs.length≠1:=by
   intro h1;rw[h1]at hl
   match l,hl with
   | [x],_=>exact cY x rfl
  rw[if_neg this];refine .oD vs (fun i=>vs.getD i undef) hl (fun i x hi=>?_) fun i x hi=>?_
  ·obtain⟨v,h1,h2⟩:=hr i x hi
   simp[List.getD,h1]
  ·obtain⟨v,h1,h2⟩:=hr i x hi
   simpa[List.getD,h1]using h2
theorem EY {x:TV} (hx:x.scalar=true) {S':Place} {w':World} {v:Value} (h:aY CK S' w' x.av v):aY β S w x.av v:=by
 unfold TV.scalar at hx;split at hx
 ·obtain⟨rfl,h2⟩:=h.scalar
  exact .c (.t (.v _ h2))
 ·rename_i l
  obtain⟨vs,rfl,h1,h2⟩:=h.Ah;refine .agg vs h1 fun i c hi=>?_
  obtain⟨v,e1,e2⟩:=h2 i c hi;obtain⟨t,ht,rfl⟩:=qb hi;have:=List.all_eq_true.1 hx t (List.mem_of_getElem? ht);split at this
  ·refine⟨v,e1,.t ?_⟩
   cases e2 with|t e2=>cases e2 with|v _ h=>exact .v _ h
  ·cases this
 ·cases hx
theorem tu:∀(l:List RC) (slot:Nat),l.all RC.scalar=true->(dK slot l).1.length=l.length/\∀(i:Nat) (x:AV),(dK slot l).1[i]?=some x->∃tv:TV,l[i]?=some (.val tv)/\x=tv.av/\tv.scalar=true
 | [],_,_=>⟨rfl,by simp[dK]⟩
 | .val tv::l,slot,h=>by
  simp only[List.all_cons,Bool.and_eq_true]at h;obtain⟨h1,h2⟩:=tu l slot h.2;refine⟨by simp[dK,h1],fun i x hi=>?_⟩;cases i with
  | zero=>simp[dK]at hi;exact⟨tv,rfl,hi.symm,h.1⟩
  | succ i=>simpa using h2 i x (by simpa[dK]using hi)
 | .own _ _::l,slot,h=>by simp[RC.scalar]at h
theorem Sat.SQ (h:Sat K β S st a w) (hs:slot<st.heap.length) (hf:β slot=none) {aR:aU} {R:bS}
  (im:dR (fun b=>if b=slot then some R else β b) S w K.B0 R aR) (hx:∀c o,aR.ext R c o->c<w.heap.size/\(K.B0<=c∨K.W c o)) (Eo:∀c o,aR.wr R c o->¬S c o)
  (WN:∀b cR R',look st.heap b=some cR->β b=some R'->∀c o,cR.ext R' c o->¬aR.ext R c o) :
  Sat K (fun b=>if b=slot then some R else β b) S ⟨st.tmps,st.heap.set slot (some aR)⟩ a w:=by
 have hβ:∀b R',β b=some R'->(if b=slot then some R else β b)=some R':=by
  intro b R' hb;split
  ·rename_i uT;subst uT;rw[hf]at hb;cases hb
  ·exact hb
 refine h.step (Wr:=fun _ _=>False) (fun b=>b=slot) (eK.refl _ _) (fun _ _ hx=>hx.elim) hβ (fun b R' hb=>?_) (fun _ _ hx=>hx) (fun c o hc=>.inl hc) (fun b cR hD hb=>?_) (fun b cR hD hb=>?_)
 ·simp only[List.length_set]
  by_cases uT:b=slot
  ·omega
  ·rw[if_neg uT]at hb;exact h.top b R' hb
 ·rw[rS hD]at hb;exact hb
 ·subst hD
  rw[xO hs]at hb;cases hb;refine⟨R,by simp,im,hx,Eo,fun b' gY R' cY bK gD c o hy hz=>?_⟩;rw[rS cY]at bK;rw[if_neg cY]at gD;exact WN b' gY R' bK gD c o hz hy
theorem dR.uj {β':Nat->Option bS} {B B':Nat} {R:bS} {ts:List Cell} (h:dR CK S w B R (.var ts)):dR β' S w B' R (.var ts):=
 ⟨h.1,fun j c hj=>by obtain⟨v,e1,e2⟩:=h.2 j c hj;exact⟨v,e1,e2.mono (fun _ _ hx=>by cases hx) (fun _ _ hx=>hx) fun _ _ _=>rfl⟩⟩
theorem vg:∀(l:List RC) (us:List Value) (k0:Nat) (Rr:Nat->bS) (slot:Nat) (β:Nat->Option bS) (heap:bM),Sat K β S ⟨st.tmps,heap⟩ a w ->
  us.length=l.length->(∀(k:Nat) (r:RC),l[k]?=some r->∃u,us[k]?=some u/\SM S w (Rr (k0+k)) r u) ->
  slot+(l.filter RC.mh).length<=heap.length->(∀b,slot<=b->b<slot+(l.filter RC.mh).length->β b=none) ->
  (∀(k sz:Nat) (rows:List (List Tree)),l[k]?=some (.own sz rows)->(∀c o,(aU.rows sz rows true false).ext (Rr (k0+k)) c o->c<w.heap.size/\(K.B0<=c∨K.W c o))/\(∀c o,(aU.rows sz rows true false).wr (Rr (k0+k)) c o->¬S c o)) ->
  (∀(k j sz ke:Nat) (rows dh:List (List Tree)),k≠j->l[k]?=some (.own sz rows)->l[j]?=some (.own ke dh)->∀c o,(aU.rows sz rows true false).ext (Rr (k0+k)) c o->¬(aU.rows ke dh true false).ext (Rr (k0+j)) c o) ->
  (∀(k sz:Nat) (rows:List (List Tree)),l[k]?=some (.own sz rows)->∀b cR R',look heap b=some cR->β b=some R'->∀c o,cR.ext R' c o->¬(aU.rows sz rows true false).ext (Rr (k0+k)) c o) ->
  ∃β',(∀b,b<slot∨slot+(l.filter RC.mh).length<=b->β' b=β b)/\(∀b R,β b=some R->β' b=some R)/\Sat K β' S ⟨st.tmps,dZ heap (dK slot l).2⟩ a w /\
   (dK slot l).1.length=l.length/\∀(i:Nat) (x:AV),(dK slot l).1[i]?=some x->∃u,us[i]?=some u/\aY β' S w x u
 | [],us,k0,Rr,slot,β,heap,h,_,_,_,_,_,_,_=>⟨β,fun _ _=>rfl,fun _ _ hx=>hx,h,rfl,by simp[dK]⟩
 | r::l,[],_,_,_,_,_,_,hl,_,_,_,_,_,_=>by simp at hl
 | r::l,u::us,k0,Rr,slot,β,heap,h,hl,hr,hlen,hf,hx,SR,hd=>by
  obtain⟨u',hu',Vk⟩:=hr 0 r rfl;simp at hu';subst hu';have shift:∀k,k0+(k+1)=k0+1+k:=fun k=>by omega
  cases r with
  | val tv=>
   obtain⟨β',e1,Sk,e2,e3,e4⟩:=vg l us (k0+1) Rr slot β heap h (by simpa using hl) (fun k r hk=>by
    obtain⟨u,q1,q2⟩:=hr (k+1) r (by simpa using hk);exact⟨u,by simpa using q1,by rw[<-shift];exact q2⟩) (by simpa[RC.mh]using hlen) (by simpa[RC.mh]using hf) (fun k sz rows hk=>by rw[<-shift];exact hx (k+1) sz rows (by simpa using hk))
    (fun k j sz ke rows dh cY hk hj=>by rw[<-shift,<-shift];exact SR (k+1) (j+1) sz ke rows dh (by omega) (by simpa using hk) (by simpa using hj))
    (fun k sz rows hk=>by rw[<-shift];exact hd (k+1) sz rows (by simpa using hk))
   refine⟨β',by simpa[RC.mh]using e1,Sk,e2,by simp[dK,e3],fun i x hi=>?_⟩;cases i with
   | zero=>
    simp[dK]at hi;subst hi;exact⟨u,rfl,aY.mono Vk (fun _ _ hx=>by cases hx) (fun _ _ hx=>hx) fun _ _ _=>rfl⟩
   | succ i=>simpa using e4 i x (by simpa[dK]using hi)
  | own sz rows=>
   simp only[List.filter_cons,RC.mh,if_true,List.length_cons]at hlen hf;obtain⟨h1,h2⟩:=hx 0 sz rows rfl;have Eh:=hf slot (Nat.le_refl _) (by omega);have h3:=h.SQ (slot:=slot) (by show slot<heap.length;omega) Eh (aR:=.rows sz rows true false) (R:=Rr (k0+0)) Vk.2 h1 h2 (hd 0 sz rows rfl);obtain⟨β',e1,Sk,e2,e3,e4⟩:=vg l us (k0+1) Rr (slot+1) _ _ h3 (by simpa using hl) (fun k r hk=>by
    obtain⟨u,q1,q2⟩:=hr (k+1) r (by simpa using hk);exact⟨u,by simpa using q1,by rw[<-shift];exact q2⟩) (by simp;omega) (fun b hb mc=>by simp only[if_neg (show b≠slot by omega)];exact hf b (by omega) (by omega)) (fun k sz rows hk=>by rw[<-shift];exact hx (k+1) sz rows (by simpa using hk))
    (fun k j sz ke rows dh cY hk hj=>by rw[<-shift,<-shift];exact SR (k+1) (j+1) sz ke rows dh (by omega) (by simpa using hk) (by simpa using hj))
    (fun k ke dh hk b cR R' hb hR c o hy=>by
     rw[<-shift]
     by_cases uT:b=slot
     ·subst uT
      rw[xO (by show b<heap.length;omega)]at hb;cases hb;simp only[if_true]at hR;cases hR;exact SR 0 (k+1) sz ke rows dh (by omega) rfl (by simpa using hk) c o hy
     ·rw[rS uT]at hb
      rw[if_neg uT]at hR;exact hd (k+1) ke dh (by simpa using hk) b cR R' hb hR c o hy)
   have Hl:∀b R,β b=some R->β' b=some R:=fun b R hb=>Sk b R (by rw[if_neg (by rintro rfl;rw[Eh]at hb;cases hb)];exact hb)
   refine⟨β',fun b hb=>?_,Hl,e2,by simp[dK,e3],fun i x hi=>?_⟩
   ·simp only[List.filter_cons,RC.mh,if_true,List.length_cons]at hb
    rw[e1 b (by omega),if_neg (by omega)]
   ·cases i with
    | zero=>
     simp[dK]at hi;subst hi;obtain⟨base,q1,q2⟩:=Vk.1;refine⟨u,rfl,?_⟩;rw[q1];have hle:rows.length<=(Rr (k0+0)).cap:=Vk.2.2.2.1;exact .c (.sl (Rr (k0+0)) base _ (Sk _ _ (by simp)) (fun hh=>by cases hh) (fun _=>by omega) hle (by omega) (fun h0=>by simpa using q2 h0))
    | succ i=>simpa using e4 i x (by simpa[dK]using hi)
end
def rU (h:Hp) (h':bM):bI->Option aU->Prop
 | .none,_=>True
 | .own b,_=>look h' b=none
 | .eP b off len,o=>∃sz r rows g,o=some (.rows sz r false false)/\h b=some (.rows sz rows g false)/\r.length=len/\look h' b=some (.rows sz (bG rows off r) g false)
 | .ref b,o=>∃cs fR,o=some (.var cs)/\h b=some (.var fR)/\cs.length=fR.length/\look h' b=some (.var cs)
theorem rU.heap {h:Hp} {h1 h2:bM} {b:bI} {o:Option aU} (hb:rU h h1 b o) (he:∀i,b.id=some i->look h2 i=look h1 i):rU h h2 b o:=by
 cases b with
 | none=>trivial
 | own b=>show look h2 b=none;rw[he b rfl];exact hb
 | eP b off len=>obtain⟨sz,r,rows,g,e1,e2,e3,e4⟩:=hb;exact⟨sz,r,rows,g,e1,e2,e3,by rw[he b rfl];exact e4⟩
 | ref b=>obtain⟨cs,fR,e1,e2,e3,e4⟩:=hb;exact⟨cs,fR,e1,e2,e3,by rw[he b rfl];exact e4⟩
theorem mi {h:Hp}:∀(dE:List bI) (outs:List (Option aU)) (bw:List (Nat×Option aU)) (heap:bM),dk h dE outs=some bw->(dE.filterMap bI.id).Nodup->(∀i∈dE.filterMap bI.id,i<heap.length) ->
  outs.length=dE.length/\(∀i,i ∉ dE.filterMap bI.id->look (dZ heap bw) i=look heap i)/\∀(i:Nat) (b:bI),dE[i]?=some b->∃o,outs[i]?=some o/\rU h (dZ heap bw) b o
 | [],[],bw,heap,hb,_,_=>by
  simp[dk]at hb;subst hb;exact⟨rfl,fun _ _=>rfl,by simp⟩
 | [],_::_,_,_,hb,_,_=>by simp[dk]at hb
 | b::dE,[],_,_,hb,_,_=>by cases b<;>simp[dk]at hb
 | b::dE,o::outs,bw,heap,hb,nH,bH=>by
  have JP:∀(bi:Nat) (x:Option aU) (LU:List (Nat×Option aU)),b.id=some bi->dk h dE outs=some LU->bw=(bi,x)::LU->(∀h',look h' bi=x->rU h h' b o) ->
    (o::outs).length=(b::dE).length/\(∀i,i ∉ (b::dE).filterMap bI.id->look (dZ heap bw) i=look heap i)/\∀(i:Nat) (b':bI),(b::dE)[i]?=some b'->∃o',(o::outs)[i]?=some o'/\rU h (dZ heap bw) b' o':=by
   rintro bi x LU Ht WO rfl Re
   rw[List.filterMap_cons,Ht]at nH bH;simp only[List.nodup_cons,List.mem_cons,forall_eq_or_imp]at nH bH;obtain⟨h1,h2,h3⟩:=mi dE outs LU (heap.set bi x) WO nH.2 (fun i hi=>by simpa using bH.2 i hi);rw[gZ];refine⟨by simp[h1],fun i hi=>?_,fun i b' hi=>?_⟩
   ·rw[List.filterMap_cons,Ht]at hi
    simp only[List.mem_cons,not_or]at hi;rw[h2 i hi.2,rS hi.1]
   ·cases i with
    | zero=>
     simp at hi;subst hi;exact⟨o,rfl,Re _ (by rw[h2 bi nH.1,xO bH.1])⟩
    | succ i=>simpa using h3 i b' (by simpa using hi)
  cases b with
  | none=>
   simp only[dk]at hb;rw[List.filterMap_cons]at nH bH;obtain⟨h1,h2,h3⟩:=mi dE outs bw heap hb (by simpa[bI.id]using nH) (by simpa[bI.id]using bH);refine⟨by simp[h1],fun i hi=>h2 i (by simpa[List.filterMap_cons,bI.id]using hi),fun i b' hi=>?_⟩;cases i with
   | zero=>simp at hi;subst hi;exact⟨o,rfl,trivial⟩
   | succ i=>simpa using h3 i b' (by simpa using hi)
  | own b=>
   simp only[dk]at hb;obtain⟨LU,h1,h2⟩:=Option.map_eq_some_iff.1 hb;exact JP b none LU rfl h1 h2.symm fun h' hl=>hl
  | eP b off len=>
   unfold dk at hb;split at hb<;>try (cases hb;done)
   all_goals (rename_i JQ Pl;try (cases JQ;done))
   ·cases JQ;cases Pl
    split at hb
    ·rename_i ke rows g gz
     split at hb
     ·rename_i hc
      obtain⟨rfl,xi⟩:=hc;obtain⟨LU,h1,h2⟩:=Option.map_eq_some_iff.1 hb;exact JP b _ LU rfl h1 h2.symm fun h' hl=>⟨_,_,_,_,rfl,gz,xi,hl⟩
     ·cases hb
    ·cases hb
  | ref b=>
   unfold dk at hb;split at hb<;>try (cases hb;done)
   all_goals (rename_i JQ Pl;try (cases JQ;done))
   ·cases JQ;cases Pl
    split at hb
    ·rename_i fR gz
     split at hb
     ·rename_i hc
      obtain⟨LU,h1,h2⟩:=Option.map_eq_some_iff.1 hb;exact JP b _ LU rfl h1 h2.symm fun h' hl=>⟨_,_,rfl,gz,hc,hl⟩
     ·cases hb
    ·cases hb
section
variable {P:Program} {C:dP} {K:Ctx} {β:Nat->Option bS} {S:Place} {st:St} {a:Act} {w:World} {slot:Nat} {e:bZ} {o:Oper} {f:FuncId}
theorem xU {bi:Nat}:∀(l:List bI) (i j:Nat) (x y:bI),(l.filterMap bI.id).Nodup->l[i]?=some x->l[j]?=some y->x.id=some bi->y.id=some bi->i=j
 | [],i,_,x,_,_,hi,_,_,_=>by simp at hi
 | z::l,i,j,x,y,nH,hi,hj,hx,hy=>by
  have tail:(l.filterMap bI.id).Nodup:=by
   rw[List.filterMap_cons]at nH;split at nH
   ·exact nH
   ·exact(List.nodup_cons.1 nH).2
  have head:∀(k:Nat) (u:bI),l[k]?=some u->u.id=some bi->z.id=some bi->False:=by
   intro k u hk hu hz;rw[List.filterMap_cons,hz]at nH;exact(List.nodup_cons.1 nH).1 (List.mem_filterMap.2 ⟨u,List.mem_of_getElem? hk,hu⟩)
  cases i with
  | zero=>
   cases j with
   | zero=>rfl
   | succ j=>simp at hi hj;subst hi;exact(head j y hj hy hx).elim
  | succ i=>
   cases j with
   | zero=>simp at hi hj;subst hj;exact(head i x hi hx hy).elim
   | succ j=>rw[xU l i j x y tail (by simpa using hi) (by simpa using hj) hx hy]
theorem eK.there {W:Place} {w w':World} (h:eK W w w') {cb co n:Nat} (ht:there w cb co n):there w' cb co n:=by
 intro o h1 h2;obtain⟨e1,e2⟩:=ht o h1 h2;unfold World.cell? at e1;unfold World.frozen? at e2;cases hg:w.heap[cb]? with
 | none=>rw[hg]at e1;simp at e1
 | some ob=>
  cases ob with
  | cells c el fr=>
   obtain⟨c',f1,f2,f3⟩:=h.obj cb _ hg;simp only[hg]at e1 e2;unfold World.cell? World.frozen?;simp only[f1];refine⟨?_,e2⟩;simp only[Option.isSome_none,Bool.false_eq_true,if_false]at e1 ⊢;have bH:o<c.size:=by
    rcases Nat.lt_or_ge o c.size with h|h
    ·exact h
    ·rw[Array.getElem?_eq_none h]at e1;cases e1
   rw[Array.getElem?_eq_getElem (by omega)];rfl
  | _=>rw[hg]at e1;simp at e1
theorem qm {h:Hp}:∀ {ms:List Mode} {xs:List AV} {as:List Arg} {ks:List (Nat×Option aU)} {bs:List bI},cD h ms xs=some (as,ks,bs) ->
  as.length=xs.length/\(∀x∈as,∀ts,x ≠ .gh ts)/\∀(i:Nat) (f:FuncId) (a8:List (Nat×Nat×Nat)),as[i]?=some (.dj f a8)->xs[i]?=some (.c (.dj f a8))
 | [],[],as,ks,bs,ht=>by simp[cD]at ht;obtain⟨rfl,rfl,rfl⟩:=ht;exact⟨rfl,by simp,by simp⟩
 | [],_::_,_,_,_,ht=>by simp[cD]at ht
 | _::_,[],_,_,_,ht=>by simp[cD]at ht
 | md::ms,x::xs,as,ks,bs,ht=>by
  unfold cD at ht;split at ht
  ·rename_i a1 k1 b1 as1 ks1 bs1 h1 h2
   cases ht;obtain⟨e1,e2,e3⟩:=qm h2;have key:(∀ts,a1 ≠ .gh ts)/\∀f a8,a1=.dj f a8->x=.c (.dj f a8):=by
    unfold dQ at h1;split at h1
    ·cases h1;exact⟨fun ts h=>(by cases h),fun f a8 h=>by cases h;rfl⟩
    ·obtain⟨p,_,q⟩:=Option.map_eq_some_iff.1 h1
     cases q;exact⟨fun ts h=>(by cases h),fun f a8 h=>by cases h⟩
    ·split at h1
     ·split at h1
      ·cases h1;exact⟨fun ts h=>(by cases h),fun f a8 h=>by cases h⟩
      ·cases h1
     ·cases h1
    ·split at h1
     ·split at h1
      ·cases h1;exact⟨fun ts h=>(by cases h),fun f a8 h=>by cases h⟩
      ·cases h1
     ·cases h1
    ·cases h1;exact⟨fun ts h=>(by cases h),fun f a8 h=>by cases h⟩
    ·split at h1
     ·split at h1
      ·cases h1;exact⟨fun ts h=>(by cases h),fun f a8 h=>by cases h⟩
      ·cases h1
     ·cases h1
    ·obtain⟨p,_,q⟩:=Option.map_eq_some_iff.1 h1
     cases q;exact⟨fun ts h=>(by cases h),fun f a8 h=>by cases h⟩
    ·split at h1
     ·split at h1
      ·cases h1;exact⟨fun ts h=>(by cases h),fun f a8 h=>by cases h⟩
      ·cases h1
     ·cases h1
    ·cases h1
   refine⟨by simp[e1],fun y hy=>?_,fun i f a8 hi=>?_⟩
   ·rcases List.mem_cons.1 hy with rfl|hy
    ·exact key.1
    ·exact e2 y hy
   ·cases i with
    | zero=>simp at hi;simp[key.2 f a8 hi]
    | succ i=>simpa using e3 i f a8 (by simpa using hi)
  ·cases ht
theorem Ax:∀ {as:List Arg},(∀x∈as,∀ts,x ≠ .gh ts)->jS as=as.length
 | [],_=>rfl
 | x::as,h=>by
  have h1:=h x (.head _);have h2:=Ax fun y hy=>h y (.tail _ hy)
  cases x with
  | gh ts=>exact absurd rfl (h1 ts)
  | _=>simp[jS,h2]
theorem Gt:∀ {as:List Arg} {ts:List Tree} {l:List Arg},(∀x∈as,∀ts,x ≠ .gh ts)->jS (as ++ .gh ts::l)=as.length
 | [],ts,l,_=>rfl
 | x::as,ts,l,h=>by
  have h1:=h x (.head _);have h2:=Gt (ts:=ts) (l:=l) fun y hy=>h y (.tail _ hy)
  cases x with
  | gh ts=>exact absurd rfl (h1 ts)
  | _=>simp[jS,h2]
theorem oS:∀(l:List (Nat×Nat×Nat)) (acc:List Nat),(∀b∈acc,b∈oO l acc)/\∀p∈l,p.1∈oO l acc
 | [],acc=>⟨fun _ h=>h,by simp⟩
 | (b,r,c)::l,acc=>by
  unfold oO;split
  ·rename_i hc
   obtain⟨h1,h2⟩:=oS l acc;refine⟨h1,fun p hp=>?_⟩;rcases List.mem_cons.1 hp with rfl|hp
   ·exact h1 _ (by simpa using hc)
   ·exact h2 p hp
  ·obtain⟨h1,h2⟩:=oS l (acc ++ [b])
   refine⟨fun x hx=>h1 x (by simp[hx]),fun p hp=>?_⟩;rcases List.mem_cons.1 hp with rfl|hp
   ·exact h1 _ (by simp)
   ·exact h2 p hp
theorem rV:∀(as:List Arg) (acc:List Nat),(∀b∈acc,b∈oa as acc)/\∀f a8,Arg.dj f a8∈as->∀p∈a8,p.1∈oa as acc
 | [],acc=>⟨fun _ h=>h,by simp⟩
 | x::as,acc=>by
  have other:oa (x::as) acc=oa as acc->(∀f a8,x ≠ .dj f a8)->(∀b∈acc,b∈oa (x::as) acc)/\∀f a8,Arg.dj f a8∈x::as->∀p∈a8,p.1∈oa (x::as) acc:=fun e hx=>by
   obtain⟨h1,h2⟩:=rV as acc;rw[e];refine⟨h1,fun f a8 hm=>?_⟩;rcases List.mem_cons.1 hm with h|h
   ·exact absurd h.symm (hx f a8)
   ·exact h2 f a8 h
  cases x with
  | dj g cs=>
   obtain⟨h1,h2⟩:=rV as (oO cs acc);obtain⟨k1,k2⟩:=oS cs acc;refine⟨fun b hb=>h1 b (k1 b hb),fun f a8 hm p hp=>?_⟩;rcases List.mem_cons.1 hm with h|h
   ·cases h;exact h1 _ (k2 p hp)
   ·exact h2 f a8 h p hp
  | val=>exact other rfl (by simp)
  | eP=>exact other rfl (by simp)
  | own=>exact other rfl (by simp)
  | ref=>exact other rfl (by simp)
  | gh=>exact other rfl (by simp)
theorem vh {b:Nat}:∀ {l:List Nat},b∈l->l[posOf b l]?=some b
 | [],h=>by cases h
 | x::l,h=>by
  unfold posOf;split
  ·rename_i hb;rw[Nat.eq_of_beq_eq_true hb];rfl
  ·rename_i hb
   rcases List.mem_cons.1 h with rfl|h
   ·rw[Nat.beq_refl]at hb;cases hb
   ·simpa using vh h
theorem xV {gs:List Nat} {n:Nat}:∀(l:List (Nat×Nat×Nat)),(Aw gs n l).length=l.length/\∀(i b r c:Nat),(Aw gs n l)[i]?=some (b,r,c)->∃b0,l[i]?=some (b0,r,c)/\b=n+posOf b0 gs
 | []=>⟨rfl,by simp[Aw]⟩
 | (b0,r0,c0)::l=>by
  obtain⟨h1,h2⟩:=xV (gs:=gs) (n:=n) l;refine⟨by simp[Aw,h1],fun i b r c hi=>?_⟩;cases i with
  | zero=>simp[Aw]at hi;obtain⟨rfl,rfl,rfl⟩:=hi;exact⟨b0,rfl,rfl⟩
  | succ i=>simpa using h2 i b r c (by simpa[Aw]using hi)
theorem xW {gs:List Nat} {n:Nat}:∀(as:List Arg),(oP gs n as).length=as.length/\∀(i:Nat) (y:Arg),(oP gs n as)[i]?=some y->∃x,as[i]?=some x/\((x=y/\∀f a8,x ≠ .dj f a8)∨∃f a8,x=.dj f a8/\y=.dj f (Aw gs n a8))
 | []=>⟨rfl,by simp[oP]⟩
 | x::as=>by
  obtain⟨h1,h2⟩:=xW (gs:=gs) (n:=n) as;have hl:(oP gs n (x::as)).length=(x::as).length:=by cases x<;>simp[oP,h1]
  refine⟨hl,fun i y hi=>?_⟩;cases i with
  | zero=>
   refine⟨x,rfl,?_⟩;cases x with
   | dj f a8=>simp[oP]at hi;exact .inr ⟨f,a8,rfl,hi.symm⟩
   | _=>simp[oP]at hi;exact .inl ⟨hi,by simp⟩
  | succ i=>
   obtain⟨z,e1,e2⟩:=h2 i y (by cases x<;>simpa[oP]using hi);exact⟨z,by simpa using e1,e2⟩
theorem tw {h:Hp}:∀ {gs:List Nat} {xT:List Arg},jF h gs=some xT->xT.length=gs.length/\∀(k b:Nat),gs[k]?=some b->∃ts,xT[k]?=some (.gh ts)/\h b=some (.var (ts.map .t))
 | [],xT,hg=>by simp[jF]at hg;subst hg;exact⟨rfl,by simp⟩
 | b::gs,xT,hg=>by
  unfold jF at hg;split at hg
  ·rename_i cells hb
   split at hg
   ·rename_i ts as h1 h2
    cases hg;obtain⟨e1,e2⟩:=tw h2;refine⟨by simp[e1],fun k b' hk=>?_⟩;cases k with
    | zero=>simp at hk;subst hk;exact⟨ts,rfl,by rw[hb,SN h1 rfl]⟩
    | succ k=>simpa using e2 k b' (by simpa using hk)
   ·cases hg
  ·cases hg
theorem xX:∀(gs:List Nat),(qk gs).length=gs.length/\∀(k b:Nat),gs[k]?=some b->(qk gs)[k]?=some (.ref b)
 | []=>⟨rfl,by simp⟩
 | g::gs=>by
  obtain⟨h1,h2⟩:=xX gs;refine⟨by simp[qk,h1],fun k b hk=>?_⟩;cases k with
  | zero=>simp at hk;subst hk;rfl
  | succ k=>simpa[qk]using h2 k b (by simpa using hk)
theorem Ay (h0:∀b aR,look st.heap b=some aR->∃R,β b=some R) {ms:List Mode} {xs:List AV} {bn:List Value} {args:List Arg} {m:List (Nat×Option aU)} {dE:List bI} (h:Sat K β S st a w)
  (hl:bn.length=xs.length) (hv:∀(i:Nat) (x:AV),xs[i]?=some x->∃v,bn[i]?=some v/\aY β S w x v) (ht:eh (look st.heap) ms xs=some (args,m,dE)) :
  ∃(S':Place) (vj:List Value),(∀c o,S c o->S' c o)/\Sat K β S' ⟨st.tmps,dZ st.heap m⟩ a w/\dT st.heap (dZ st.heap m)/\args.length=vj.length/\dE.length=vj.length/\vj.take (jS args)=bn /\
   ∃Rs:Nat->bS,(∀(i:Nat) (x:Arg),args[i]?=some x->∃b v,dE[i]?=some b/\vj[i]?=some v/\iS β st.heap S' w x b (Rs i) v) /\
    ∀(i:Nat) (f:FuncId) (a8:List (Nat×Nat×Nat)) (v:Value),args[i]?=some (.dj f a8)->vj[i]?=some v->dd (βA args Rs) S' w (.dj f a8) v:=by
 unfold eh at ht;split at ht
 ·cases ht
 rename_i as ks bs hp;obtain⟨S',hS,h1,hm,hal,JR,Rs,jT⟩:=kl h0 ms xs bn st.heap S as ks bs h (dT.refl _) hl hv hp;obtain⟨c1,c2,c3⟩:=qm hp;have raw:∀(i:Nat) (f:FuncId) (a8:List (Nat×Nat×Nat)) (v:Value),as[i]?=some (.dj f a8)->bn[i]?=some v->dd β S' w (.dj f a8) v:=fun i f a8 v hi Rf=>by
  obtain⟨u,e1,e2⟩:=hv i _ (c3 i f a8 hi);rw[Rf]at e1;cases e1;cases e2 with|c e2=>exact e2.mono (fun _ _ hx=>hx) hS fun _ _ _=>rfl
 obtain⟨_,gm⟩:=rV as [];split at ht
 ·rename_i hg
  cases ht;refine⟨S',bn,hS,h1,hm,by omega,by omega,by rw[Ax c2,List.take_of_length_le (by omega)],Rs,jT,fun i f a8 v hi Rf=>?_⟩;have r:=raw i f a8 v hi Rf;have hc:a8=[]:=by
   cases a8 with
   | nil=>rfl
   | cons p l=>
    have:=gm f (p::l) (List.mem_of_getElem? hi) p (.head _);rw[hg]at this;cases this
  subst hc;cases r with
  | dj vs e1 e2=>exact .dj vs e1 (by simp)
 ·rename_i g gs hg
  rw[hg]at gm;obtain⟨G,hG⟩:∃G,G=g::gs:=⟨_,rfl⟩;rw[<-hG]at ht gm;split at ht
  ·rename_i xT WQ
   cases ht;obtain⟨g1,g2⟩:=tw WQ;obtain⟨f1,f2⟩:=xX G;obtain⟨a1,a2⟩:=xW (gs:=G) (n:=as.length) as;have hno:∀x∈oP G as.length as,∀ts,x ≠ .gh ts:=fun x hx ts he=>by
    obtain⟨i,hi⟩:=List.getElem?_of_mem hx;obtain⟨y,e1,e2⟩:=a2 i x hi;rcases e2 with⟨rfl,_⟩|⟨f,a8,_,rfl⟩
    ·exact c2 y (List.mem_of_getElem? e1) ts he
    ·cases he
   have hRb:∀(k b:Nat),G[k]?=some b->∃R,β b=some R:=fun k b hk=>by
    obtain⟨ts,_,e⟩:=g2 k b hk;exact h0 b _ e
   obtain⟨rg,Pm⟩:∃rg:Nat->bS,∀b R,β b=some R->rg b=R:=⟨fun b=>(β b).getD ⟨0,0,0,0⟩,fun b R hb=>by simp[hb]⟩;have Rc:jS (oP G as.length as++xT)=as.length:=by
    obtain⟨ts,e1,_⟩:=g2 0 g (by rw[hG];rfl);obtain⟨x,l,rfl⟩:∃x l,xT=x::l:=by
     cases xT with
     | nil=>simp at e1
     | cons x l=>exact⟨x,l,rfl⟩
    simp at e1;subst e1;rw[Gt hno,a1]
   refine⟨S',bn++G.map fun b=>.pointer (some ⟨(rg b).cb,(rg b).co,none⟩),hS,h1,hm,by simp[a1,g1];omega,by simp[f1];omega,by rw[Rc,List.take_append_of_le_length (by omega),List.take_of_length_le (by omega)],
    fun i=>if i<as.length then Rs i else rg (G.getD (i-as.length) 0),fun i x hi=>?_,fun i f a8 v hi Rf=>?_⟩
   ·rw[List.getElem?_append]at hi
    split at hi
    ·rename_i bH
     rw[a1]at bH;obtain⟨y,e1,e2⟩:=a2 i x hi;obtain⟨b,v,q1,q2,q3⟩:=jT i y e1;refine⟨b,v,by rw[List.getElem?_append_left (by omega)];exact q1,by rw[List.getElem?_append_left (by omega)];exact q2,?_⟩;simp only[if_pos bH];rcases e2 with⟨rfl,_⟩|⟨f,a8,rfl,rfl⟩
     ·exact q3
     ·cases q3;exact .dj
    ·rename_i Ef
     rw[a1]at Ef hi;have hk:=ta hi;obtain⟨b,hb⟩:∃b,G[i-as.length]?=some b:=⟨_,List.getElem?_eq_getElem (by omega)⟩;obtain⟨ts,e1,e2⟩:=g2 _ b hb;obtain⟨R,hR⟩:=hRb _ b hb;rw[hi]at e1;cases e1;refine⟨.ref b,.pointer (some ⟨(rg b).cb,(rg b).co,none⟩),by rw[List.getElem?_append_right (by omega),JR,<-c1];exact f2 _ b hb,by rw[List.getElem?_append_right (by omega),hl,<-c1,List.getElem?_map,hb];rfl,?_⟩
     have e3:G.getD (i-as.length) 0=b:=by rw[List.getD_eq_getElem?_getD,hb];rfl
     simp only[if_neg Ef,e3];rw[Pm b R hR];exact .gh e2 hR rfl
   ·rw[List.getElem?_append]at hi
    split at hi
    ·rename_i bH
     rw[a1]at bH;obtain⟨y,e1,e2⟩:=a2 i _ hi;rcases e2 with⟨rfl,e2⟩|⟨f',Pn,rfl,e2⟩
     ·exact absurd rfl (e2 f a8)
     ·cases e2
      rw[List.getElem?_append_left (by omega)]at Rf;have r:=raw i f Pn v e1 Rf;obtain⟨l1,l2⟩:=xV (gs:=G) (n:=as.length) Pn;cases r with
      | dj vs q1 q2=>
       refine .dj vs (by rw[l1];exact q1) fun j b r c hj=>?_
       obtain⟨b0,k1,rfl⟩:=l2 j b r c hj;obtain⟨R,k2,k3⟩:=q2 j b0 r c k1;refine⟨R,?_,k3⟩;have xh:=vh (gm f Pn (List.mem_of_getElem? e1) _ (List.mem_of_getElem? k1));obtain⟨ts,m1,m2⟩:=g2 _ b0 xh;have e3:G.getD (as.length+posOf b0 G-as.length) 0=b0:=by rw[Nat.add_sub_cancel_left,List.getD_eq_getElem?_getD,xh];rfl
       unfold βA;rw[List.getElem?_append_right (by omega),a1,Nat.add_sub_cancel_left,m1];simp only[Option.bind_some,Arg.aR,Option.isSome_some,if_true];rw[if_neg (by omega),e3,Pm b0 R k2]
    ·rename_i Ef
     obtain⟨b,hb⟩:∃b,G[i-(oP G as.length as).length]?=some b:=⟨_,List.getElem?_eq_getElem (by have:=ta hi;omega)⟩;obtain⟨ts,e1,_⟩:=g2 _ b hb;rw[hi]at e1;cases e1
  ·cases ht
theorem EZ (h:Sat K β S st a w) {bJ:List AV} {bn:List Value} (hl:bn.length=bJ.length) (hv:∀(i:Nat) (x:AV),bJ[i]?=some x->∃v,bn[i]?=some v/\aY β S w x v)
  {ms:List Mode} {args:List Arg} {marks:List (Nat×Option aU)} {dE:List bI} (hp:eh (look st.heap) ms bJ=some (args,marks,dE)) {res:lJ} (hc:aA P f args res)
  (hs:slot+2<=st.heap.length) (hf:∀b,slot<=b->b<slot+2->β b=none) (he:fU (look st.heap) slot marks dE res=some e) :
  Calls P f bn.toArray w fun en w'=>∃v β' S',en=.returned v/\(∀b,b<slot∨slot+2<=b->β' b=β b)/\Sat K β' S' ⟨st.tmps,dZ st.heap e.wr⟩ a w'/\aY β' S' w' e.val v:=by
 obtain⟨S1,vj,NQ,h1,hm,hal,JR,NU,Rs,jT,Mx⟩:=Ay (fun b aR hb=>by obtain⟨R,hR,_⟩:=h.aR b aR hb;exact⟨R,hR⟩) h hl hv hp;rw[<-NU];clear NU hl hv;generalize vj=bn at *;unfold fU at he;simp only at he;split at he
 ·rename_i Vl
  simp only[Bool.and_eq_true,List.isEmpty_iff]at Vl;obtain⟨Vl,My⟩:=Vl;cases he;have NV:∀(i:Nat) (b:bI),dE[i]?=some b->b.id=none:=by
   intro i b hb;cases tx:b.id with
   | none=>rfl
   | some bi=>
    have:bi∈dE.filterMap bI.id:=List.mem_filterMap.2 ⟨b,List.mem_of_getElem? hb,tx⟩;rw[My]at this;cases this
  have iU:∀(i:Nat) (x:Arg),args[i]?=some x->∃b v,dE[i]?=some b/\bn[i]?=some v/\iS β (dZ st.heap marks) S1 w x b (Rs i) v:=by
   intro i x hi;obtain⟨b,v,e1,e2,e3⟩:=jT i x hi;exact⟨b,v,e1,e2,e3.heap fun bi hb=>by rw[NV i b e1]at hb;cases hb⟩
  have Az:=oR h1 (by omega) (by rw[My];simp) iU Mx;have kZ:∀c o,¬mg args Rs c o:=by
   rintro c o ⟨i,x,aR,e1,e2,e3⟩
   obtain⟨b,v,f1,f2,f3⟩:=iU i x e1;rcases(f3.tq h1).2 aR e2 with⟨bi,B,RB,g1,_⟩|⟨_,g⟩
   ·rw[NV i b f1]at g1;cases g1
   ·exact g c o e3
  refine(hc.2 S1 w bn Rs Az).mono ?_
  rintro en w' ⟨v,rfl,⟨S',Rr,vs,p1,p2,p3,p4,p5,p6,_⟩⟩
  have hk:eK (fun _ _=>False) w w':=p3.mono fun c o _ hx=>absurd hx (kZ c o)
  refine⟨v,β,S,rfl,fun _ _=>rfl,?_,?_⟩
  ·exact h.step (fun _=>False) hk (fun _ _ hx=>hx.elim) (fun _ _ hx=>hx) h.top (fun _ _ hx=>hx) (fun _ _ hx=>.inl hx) (fun _ _ _ hx=>hx) (fun _ _ hx=>hx.elim)
  ·obtain⟨q1,q2⟩:=tu res.bn slot Vl
   rw[p2];refine ve (by omega) fun i x hi=>?_
   obtain⟨tv,r1,rfl,r3⟩:=q2 i x hi;obtain⟨u,s1,s2⟩:=p6 i _ r1;exact⟨u,s1,EY r3 s2⟩
 ·split at he
  ·cases he
  ·rename_i Al
   simp only[Bool.or_eq_true,not_or,Bool.not_eq_true',Bool.not_eq_false]at Al;obtain⟨⟨WR,Hu⟩,WS⟩:=Al;have nH:(dE.filterMap bI.id).Nodup:=by simpa using Hu
   have ad9:(res.bn.filter RC.mh).length<=2:=by simpa using WS
   have Ci:∀i∈dE.filterMap bI.id,i ∉ ids marks:=by
    intro i hi;have:=List.all_eq_true.1 WR i hi;simpa using this
   split at he
   ·rename_i bw WO
    cases he;have JS:∀i∈dE.filterMap bI.id,i<(dZ st.heap marks).length:=by
     intro i hi;obtain⟨b,hb,tx⟩:=List.mem_filterMap.1 hi;obtain⟨k,hk⟩:=List.getElem?_of_mem hb;have Gs:=ta hk;obtain⟨b',v,e1,e2,e3⟩:=jT k (args[k]'(by omega)) (List.getElem?_eq_getElem _);rw[hk]at e1;cases e1;rw[JC];generalize args[k]=x at e3;generalize Rs k=Rk at e3;cases e3 with
     | val=>cases tx
     | eP g1=>cases tx;exact rQ g1
     | own g1=>cases tx;exact rQ g1
     | nil=>cases tx
     | ref g1=>cases tx;exact rQ g1
     | dj=>cases tx
     | gh g1=>cases tx;exact rQ g1
    have iU:∀(i:Nat) (x:Arg),args[i]?=some x->∃b v,dE[i]?=some b/\bn[i]?=some v/\iS β (dZ st.heap marks) S1 w x b (Rs i) v:=by
     intro i x hi;obtain⟨b,v,e1,e2,e3⟩:=jT i x hi;exact⟨b,v,e1,e2,e3.heap fun bi hb=>I7 marks st.heap (Ci bi (List.mem_filterMap.2 ⟨b,List.mem_of_getElem? e1,hb⟩))⟩
    have Az:=oR h1 (by omega) nH iU Mx;obtain⟨bs1,bs2,bs3⟩:=mi dE res.out bw (dZ st.heap marks) WO nH JS;have qn:∀c o,mg args Rs c o->∃(i:Nat) (x:Arg) (b:bI) (v:Value) (aR:aU) (bi:Nat) (B:aU) (RB:bS),args[i]?=some x/\dE[i]?=some b/\iS β (dZ st.heap marks) S1 w x b (Rs i) v/\x.aR=some aR/\b.id=some bi/\look (dZ st.heap marks) bi=some B/\β bi=some RB/\aR.ext (Rs i) c o/\B.ext RB c o/\B.wr RB c o:=by
     rintro c o ⟨i,x,aR,e1,e2,e3⟩
     obtain⟨b,v,f1,f2,f3⟩:=iU i x e1;rcases(f3.tq h1).2 aR e2 with⟨bi,B,RB,g1,g2,g3,g4,g5⟩|⟨_,g⟩
     ·refine⟨i,x,b,v,aR,bi,B,RB,e1,f1,f3,e2,g1,g2,g3,e3,g4 c o e3,g5 c o ?_⟩
      obtain⟨q1,q2⟩:=e3;cases x with
      | val=>cases e2
      | eP sz rows=>cases e2;exact⟨q1,by simpa using q2⟩
      | own sz rows=>cases e2;exact⟨q1,by simpa using q2⟩
      | ref cells=>cases e2;exact⟨q1,q2⟩
      | dj=>cases e2
      | gh cells=>cases e2;exact⟨q1,q2⟩
     ·exact absurd e3 (g c o)
    refine(hc.2 S1 w bn Rs Az).mono ?_
    rintro en w' ⟨v,rfl,⟨S',Rr,vs,p1,p2,p3,p4,p5,p6,p7,p8,p9⟩⟩
    have hwS:∀c o,S1 c o->w'.cell? ⟨c,o,none⟩=w.cell? ⟨c,o,none⟩:=fun c o ji=>(p3.cell (h1.rH c o ji) fun hx=>by
     obtain⟨i,x,b,v,aR,bi,B,RB,_,_,_,_,_,g2,g3,_,_,g6⟩:=qn c o hx;obtain⟨R',k1,_,_,k4⟩:=h1.aR bi B g2;rw[g3]at k1;cases k1;exact k4 c o g6 ji).1
    have qo:∀b aR,look (dZ (dZ st.heap marks) bw) b=some aR->∃B,look (dZ st.heap marks) b=some B/\∀R c o,aR.ext R c o->B.ext R c o:=by
     intro b aR hb
     by_cases hD:b∈dE.filterMap bI.id
     ·obtain⟨bk,gz,tx⟩:=List.mem_filterMap.1 hD
      obtain⟨i,hi⟩:=List.getElem?_of_mem gz;have WT:=ta hi;obtain⟨b',u,l1,l2,l3⟩:=iU i (args[i]'(by omega)) (List.getElem?_eq_getElem _);rw[hi]at l1;cases l1;obtain⟨ob,Vm,Mz⟩:=bs3 i bk hi;generalize args[i]=x at l3;generalize Rs i=Ri at l3;cases l3 with
      | val=>cases tx
      | nil=>cases tx
      | own g1=>cases tx;rw[show look (dZ (dZ st.heap marks) bw) b=none from Mz]at hb;cases hb
      | eP g1 g2 g3 g4=>
       cases tx;obtain⟨ke,r,dh,g',q1,q2,q3,q4⟩:=Mz;rw[q4]at hb;cases hb;rw[I7 marks st.heap (Ci b hD),q2]at g1;cases g1;refine⟨_,by rw[I7 marks st.heap (Ci b hD)];exact q2,fun R c o hx=>?_⟩;rw[aU.ext,O4 _ _ _ (by omega)]at hx;exact hx
      | ref g1 g2 g3=>
       cases tx;obtain⟨cs,fR,q1,q2,q3,q4⟩:=Mz;rw[q4]at hb;cases hb;refine⟨_,by rw[I7 marks st.heap (Ci b hD)];exact q2,fun R c o hx=>?_⟩;rw[aU.ext,q3]at hx;exact hx
      | dj=>cases tx
      | gh g1 g2 g3=>
       cases tx;obtain⟨cs,fR,q1,q2,q3,q4⟩:=Mz;rw[q4]at hb;cases hb;refine⟨_,by rw[I7 marks st.heap (Ci b hD)];exact q2,fun R c o hx=>?_⟩;rw[aU.ext,q3]at hx;exact hx
     ·rw[bs2 b hD]at hb
      exact⟨aR,hb,fun _ _ _ hx=>hx⟩
    have NW:∀b aR,b∈dE.filterMap bI.id->look (dZ (dZ st.heap marks) bw) b=some aR->∃RB,β b=some RB/\dR β S' w' K.B0 RB aR/\(∀c o,aR.wr RB c o->¬S' c o) /\
      (∀c o,aR.ext RB c o->mg args Rs c o->∀(k sz:Nat) (rows:List (List Tree)),res.bn[k]?=some (.own sz rows)->¬(aU.rows sz rows true false).ext (Rr k) c o):=by
     intro b aR hD hb;obtain⟨bk,gz,tx⟩:=List.mem_filterMap.1 hD;obtain⟨i,hi⟩:=List.getElem?_of_mem gz;have WT:=ta hi;obtain⟨x,SS⟩:∃x,args[i]?=some x:=⟨_,List.getElem?_eq_getElem (by omega)⟩;obtain⟨b',u,l1,l2,l3⟩:=iU i x SS;rw[hi]at l1;cases l1;obtain⟨ob,Vm,Mz⟩:=bs3 i bk hi;obtain⟨B,nJ,pQ⟩:=qo b aR hb;obtain⟨RB,k1,k2,k3,k4⟩:=h1.aR b B nJ;have NX:∀c o,B.ext RB c o->mg args Rs c o->∃bl,x.aR=some bl/\bl.ext (Rs i) c o:=by
      intro c o hx hn;obtain⟨j,x',bj,u',bl,bi,B',Pk,n1,n2,n3,n4,n5,n6,n7,n8,n9,_⟩:=qn c o hn;have I3:bi=b:=by
       rcases Decidable.em (bi=b) with h|h
       ·exact h
       ·exact absurd hx (h1.kX bi b B' B Pk RB h n6 nJ n7 k1 c o n9)
      subst I3;have CN:=xU dE j i bj bk nH n2 hi n5 tx;subst CN;rw[SS]at n1;cases n1;exact⟨bl,n4,n8⟩
     have hS':∀c o,S' c o->B.ext RB c o->S1 c o∨mg args Rs c o:=by
      intro c o rM hx;rcases p5 c o rM with h|⟨_,h|h⟩
      ·exact .inl h
      ·have:=(k3 c o hx).1;omega
      ·exact .inr h
     generalize WU:Rs i=Ri at l3;cases l3 with
     | val=>cases tx
     | nil=>cases tx
     | own g1=>cases tx;rw[show look (dZ (dZ st.heap marks) bw) b=none from Mz]at hb;cases hb
     | eP g1 g2 g3 g4=>
      rename_i sz off len rows g R0;cases tx;rw[k1]at g2;cases g2;obtain⟨ke,r,dh,g',q1,q2,q3,q4⟩:=Mz;subst q1;rw[q4]at hb;cases hb;rw[g1]at nJ;cases nJ;rw[I7 marks st.heap (Ci b hD),q2]at g1;cases g1;obtain⟨arg,b0,a0,WV,a1,a2,a3,a4⟩:=p9 i _ Vm;rw[SS]at a0;cases a0;cases WV;rw[WU]at a1 a2 a3 a4 NX;obtain⟨z0,z1,z2,z3,z4,z5,z6,z7⟩:=k2;obtain⟨y0,y1,y2,y3,y4,y5,y6,y7⟩:=a2
      have Es:((rows.drop off).take len).length=len:=by rw[List.length_take,List.length_drop];omega
      have O3:=O4 rows r off (by omega);have Po:∀(s o:Nat),RB.co+off*RB.af<=o->o<RB.co+off*RB.af+len*RB.af->(aU.rows s r false false).ext ⟨RB.cb,RB.co+off*RB.af,RB.af,RB.cap-off⟩ RB.cb o:=fun s o h1 h2=>⟨rfl,h1,by simp only[Bool.false_eq_true,if_false];rw[q3];exact h2⟩
      have E0:∀(s c o:Nat),(aU.rows s rows g false).ext RB c o->mg args Rs c o->c=RB.cb/\RB.co+off*RB.af<=o/\o<RB.co+off*RB.af+len*RB.af:=by
       intro s c o hx hn;obtain⟨bl,m1,m2⟩:=NX c o hx hn;cases m1;obtain⟨m3,m4,m5⟩:=m2;simp only[Bool.false_eq_true,if_false,Es]at m4 m5;exact⟨m3,m4,m5⟩
      refine⟨RB,k1,⟨z0,fun row dv=>?_,by rw[O3];exact z2,z3,by rw[O3];exact z4,by rw[O3];exact p3.there z5,fun p j t ht=>?_,by simp⟩,fun c o hy rM=>?_,fun c o hy hn k JT mj hk=>?_⟩
      ·obtain⟨k,hk⟩:=List.getElem?_of_mem dv
       rw[Mr _ _ _ _ (by omega)]at hk;split at hk
       ·exact y1 row (List.mem_of_getElem? hk)
       ·exact z1 row (List.mem_of_getElem? hk)
      ·obtain⟨row,f1,f2,f3,f4⟩:=ij ht
       rw[Mr _ _ _ _ (by omega)]at f1;split at f1
       ·rename_i iv
        obtain⟨v,m1,m2⟩:=y6 _ _ _ (Eg f1 f2);refine⟨v,?_,m2⟩;simp only at m1;have hpp:p*RB.af=off*RB.af+(p-off)*RB.af:=by rw[<-Nat.add_mul];congr 1;omega
        rw[show RB.co+p*RB.af+j=RB.co+off*RB.af+(p-off)*RB.af+j by omega];exact m1
       ·rename_i iv
        have lQ:=Eg f1 f2;obtain⟨v,m1,m2⟩:=z6 _ _ _ lQ;obtain⟨m3,m4,m5⟩:=gE z1 lQ;have Hh:rows.length*RB.af<=(if g=true then RB.cap else rows.length)*RB.af:=Nat.mul_le_mul_right _ (by split<;>omega);have hex:(aU.rows 0 rows g false).ext RB RB.cb (RB.co+p*RB.af+j):=⟨rfl,by omega,by omega⟩;refine⟨v,?_,m2.mono p4 hwS⟩;rw[(p3.cell (k3 _ _ hex).1 fun hn=>?_).1]
        ·exact m1
        ·obtain⟨_,n1,n2⟩:=E0 _ _ _ hex hn
         rcases Nat.lt_or_ge p off with Gm|Gm
         ·have:=Nat.mul_le_mul_right RB.af (show p+1<=off by omega)
          rw[Nat.succ_mul]at this;omega
         ·have:=Nat.mul_le_mul_right RB.af (show off+len<=p by omega)
          rw[Nat.add_mul]at this;omega
      ·have SU:(aU.rows _ rows g false).ext RB c o:=pQ RB c o (aU.fb hy)
       rcases hS' c o rM SU with h|h
       ·refine k4 c o ?_ h
        obtain⟨n1,n2,n3⟩:=SU;exact⟨n1,by simpa using n2,n3⟩
       ·obtain⟨rfl,n1,n2⟩:=E0 _ c o SU h
        obtain⟨n3,n4,n5⟩:=Po 0 o n1 n2;exact a3 _ _ ⟨n3,by simpa using n4,n5⟩ rM
      ·have SU:(aU.rows _ rows g false).ext RB c o:=pQ RB c o hy
       obtain⟨rfl,n1,n2⟩:=E0 _ c o SU hn;exact a4 k JT mj hk _ _ (Po _ o n1 n2)
     | ref g1 g2 g3=>
      rename_i ts;cases tx;rw[k1]at g2;cases g2;obtain⟨cs,fR,q1,q2,q3,q4⟩:=Mz;subst q1;rw[q4]at hb;cases hb;rw[g1]at nJ;cases nJ;rw[I7 marks st.heap (Ci b hD),q2]at g1;cases g1;obtain⟨arg,b0,a0,WV,a1,a2,a3,a4⟩:=p9 i _ Vm;rw[WU]at a1 a2 a3 a4;refine⟨RB,k1,a2.uj,a3,fun c o hy hn k JT mj hk=>a4 k JT mj hk c o hy⟩
     | dj=>cases tx
     | gh g1 g2 g3=>
      rename_i ts;cases tx;rw[k1]at g2;cases g2;obtain⟨cs,fR,q1,q2,q3,q4⟩:=Mz;subst q1;rw[q4]at hb;cases hb;rw[g1]at nJ;cases nJ;rw[I7 marks st.heap (Ci b hD),q2]at g1;cases g1;obtain⟨arg,b0,a0,WV,a1,a2,a3,a4⟩:=p9 i _ Vm;rw[WU]at a1 a2 a3 a4;refine⟨RB,k1,a2.uj,a3,fun c o hy hn k JT mj hk=>a4 k JT mj hk c o hy⟩
    have h2:Sat K β S' ⟨st.tmps,dZ (dZ st.heap marks) bw⟩ a w':=by
     refine h1.step (fun b=>b∈dE.filterMap bI.id) p3 (fun c o hx bH=>?_) (fun _ _ hx=>hx) (fun b R hb=>by rw[JC];exact h1.top b R hb) p4 (fun c o rM=>?_) (fun b aR hD hb=>by rw[bs2 b hD]at hb;exact hb) (fun b aR hD hb=>?_)
     ·obtain⟨i,x,b,v,aR,bi,B,RB,_,g0,_,_,g1,g2,g3,_,g5,g6⟩:=qn c o hx
      obtain⟨R',k1,_,k3,k4⟩:=h1.aR bi B g2;rw[g3]at k1;cases k1;refine⟨k4 c o g6,(k3 c o g5).2,fun b' cR R' hD bK gD hy=>?_⟩;have cY:bi≠b':=by rintro rfl;exact hD (List.mem_filterMap.2 ⟨b,List.mem_of_getElem? g0,g1⟩)
      exact h1.kX bi b' B cR RB R' cY g2 bK g3 gD c o g5 hy
     ·rcases p5 c o rM with ji|⟨bH,hn⟩
      ·exact .inl ji
      ·refine .inr ⟨bH,?_,fun b' cR R' hD bK gD hy=>?_⟩
       ·rcases hn with hn|hn
        ·exact .inl (by have:=h.jh.size;unfold Ctx.B0;omega)
        ·obtain⟨i,x,b,v,aR,bi,B,RB,_,_,_,_,_,g2,g3,_,g5,_⟩:=qn c o hn
         obtain⟨R',k1,_,k3,_⟩:=h1.aR bi B g2;rw[g3]at k1;cases k1;exact(k3 c o g5).2
       ·rcases hn with hn|hn
        ·obtain⟨uU,k1,_,k3,_⟩:=h1.aR b' cR bK
         rw[gD]at k1;cases k1;have:=(k3 c o (aU.fb hy)).1;omega
        ·obtain⟨i,x,b,v,aR,bi,B,RB,_,g0,_,_,g1,g2,g3,_,g5,_⟩:=qn c o hn
         have cY:bi≠b':=by rintro rfl;exact hD (List.mem_filterMap.2 ⟨b,List.mem_of_getElem? g0,g1⟩)
         exact h1.kX bi b' B cR RB R' cY g2 bK g3 gD c o g5 (aU.fb hy)
     ·obtain⟨B,nJ,pQ⟩:=qo b aR hb
      obtain⟨RB,k1,k2,k3,k4⟩:=h1.aR b B nJ;obtain⟨Pk,t1,t2,t3,_⟩:=NW b aR hD hb;rw[k1]at t1;cases t1;refine⟨RB,k1,t2,fun c o hx=>⟨Nat.lt_of_lt_of_le (k3 c o (pQ _ c o hx)).1 p3.size,(k3 c o (pQ _ c o hx)).2⟩,t3,fun Cy gY uU cY iG lH c o hx hy=>?_⟩;obtain⟨B'',m1,m2⟩:=qo Cy gY iG;exact h1.kX b Cy B B'' RB uU (Ne.symm cY) nJ m1 k1 lH c o (pQ _ c o hx) (m2 _ c o hy)
    have hWn:∀c o,w.heap.size<=c∨mg args Rs c o->K.B0<=c∨K.W c o:=by
     rintro c o (hn|hn)
     ·exact .inl (by have:=h.jh.size;unfold Ctx.B0;omega)
     ·obtain⟨i,x,b,v,aR,bi,B,RB,_,_,_,_,_,g2,g3,_,g5,_⟩:=qn c o hn
      obtain⟨R',k1,_,k3,_⟩:=h1.aR bi B g2;rw[g3]at k1;cases k1;exact(k3 c o g5).2
    obtain⟨β',e1,e2,e3,e4,e5⟩:=vg (st:=st) res.bn vs 0 Rr slot β _ h2 (by omega) (fun k r hk=>by
      obtain⟨u,q1,q2⟩:=p6 k r hk;exact⟨u,q1,by rw[Nat.zero_add];exact q2⟩) (by rw[JC,JC];omega) (fun b h1 h2=>hf b h1 (by omega))
     (fun k sz rows hk=>by
      rw[Nat.zero_add];obtain⟨q1,q2⟩:=p7 k sz rows hk;exact⟨fun c o hx=>⟨(q1 c o hx).1,hWn c o (q1 c o hx).2⟩,q2⟩)
     (fun k j sz ke rows dh cY hk hj=>by rw[Nat.zero_add,Nat.zero_add];exact p8 k j sz ke rows dh cY hk hj)
     (fun k sz rows hk b cR R' hb hR c o hx hy=>by
      rw[Nat.zero_add]at hy;obtain⟨B,nJ,pQ⟩:=qo b cR hb;obtain⟨RB,k1,k2,k3,k4⟩:=h1.aR b B nJ;rw[hR]at k1;cases k1;rcases((p7 k sz rows hk).1 c o hy).2 with hn|hn
      ·have:=(k3 c o (pQ _ c o hx)).1;omega
      ·by_cases hD:b∈dE.filterMap bI.id
       ·obtain⟨Pk,t1,_,_,t4⟩:=NW b cR hD hb
        rw[hR]at t1;cases t1;exact t4 c o hx hn k sz rows hk hy
       ·obtain⟨i,x,bj,v,bl,bi,B',Pk,_,g0,_,_,g1,g2,g3,_,g5,_⟩:=qn c o hn
        have cY:bi≠b:=by rintro rfl;exact hD (List.mem_filterMap.2 ⟨bj,List.mem_of_getElem? g0,g1⟩)
        exact h1.kX bi b B' B Pk R' cY g2 nJ g3 hR c o g5 (pQ _ c o hx))
    refine⟨v,β',S',rfl,fun b hb=>e1 b (by omega),by rw[Er,Er];exact e3,?_⟩;rw[p2];exact ve (by omega) e5
   ·cases he
end
theorem qp:∀ {cs:List Cell} {ts:List Tree},m9 cs=some ts->ts.length=cs.length/\∀(j:Nat) (t:Tree),ts[j]?=some t->cs[j]?=some (.t t)
 | [],ts,h=>by simp[m9]at h;subst h;simp
 | c::cs,ts,h=>by
  cases c with
  | t x=>
   simp only[m9,Option.map_eq_some_iff]at h;obtain⟨Mt,h1,rfl⟩:=h;obtain⟨h2,h3⟩:=qp h1;refine⟨by simp[h2],fun j t hj=>?_⟩;cases j with
   | zero=>simp at hj;subst hj;rfl
   | succ j=>simpa using h3 j t (by simpa using hj)
  | _=>simp[m9]at h
section
variable {P:Program} {C:dP} {K:Ctx} {β:Nat->Option bS} {S:Place} {st:St} {a:Act} {w:World} {slot:Nat} {e:bZ} {o:Oper}
theorem Sat.xY (h:Sat K β S st a w) {b:Nat} {cells:List Cell} (hb:look st.heap b=some (.var cells)) :
  ∃S',(∀c o,S c o->S' c o)/\Sat K β S' ⟨st.tmps,st.heap.set b none⟩ a w/\∀R,β b=some R->∀o,R.co<=o->o<R.co+cells.length->S' R.cb o:=by
 obtain⟨R,hR,im,hx,Eo⟩:=h.aR b _ hb;have bH:=rQ hb
 let S':Place:=fun c o=>S c o∨(c=R.cb/\R.co<=o/\o<R.co+cells.length)
 have xM:∀c o,S c o->S' c o:=fun _ _ hx=>.inl hx
 have iv:∀c o,S' c o->S c o∨(aU.var cells).ext R c o:=by
  rintro c o (hs|⟨e1,e2,e3⟩)
  ·exact .inl hs
  ·exact .inr ⟨e1,e2,by omega⟩
 refine⟨S',xM,?_,fun R' gD o e1 e2=>by rw[hR]at gD;cases gD;exact .inr ⟨rfl,e1,e2⟩⟩;refine h.step (Wr:=fun _ _=>False) (fun b'=>b'=b) (eK.refl _ _) (fun _ _ hx=>hx.elim) (fun _ _ hx=>hx) (fun b' R' bK=>by simpa using h.top b' R' bK) xM (fun c o hs=>?_) (fun b' cR hD bK=>?_) (fun b' cR hD bK=>?_)
 ·rcases iv c o hs with hs|hs
  ·exact .inl hs
  ·refine .inr ⟨(hx c o hs).1,(hx c o hs).2,fun b' cR R' hD bK gD hy=>?_⟩
   exact h.kX b b' _ cR R R' (Ne.symm hD) hb bK hR gD c o hs (aU.fb hy)
 ·rw[rS hD]at bK;exact bK
 ·subst hD
  rw[xO (by simpa using bH)]at bK;cases bK
theorem MA (hC:bt P C) (h:Sat K β S st a w) {t:TypeId} {x:Operand} {lo hi mx:Option Operand} (ho:o.op=.slice t x lo hi mx)
  (he:db C (look st.heap) t (st.get x) (lo.map st.get) (hi.map st.get) (mx.map st.get)=some e):nG P K β S st a w slot o e:=by
 by_cases LR:∀ti n el,C.ty t=some ti->ti.kind ≠ .array n el
 ·exact(Mj hC h ho LR he).kg h
 have hex:∃ti n el,C.ty t=some ti/\ti.kind=.array n el:=by
  apply Classical.byContradiction;intro hc;exact LR fun ti n el h1 h2=>hc ⟨ti,n,el,h1,h2⟩
 obtain⟨ti,n,el,cB,hk⟩:=hex;have dB:=iw (hC t ti cB);have hx:=h.get x;unfold db at he;simp only[cB]at he;split at he
 ·rename_i l oI m hl hh hm
  have bl:=eX.low h hl;have bh:=eX.of h hh;have bm:=eX.of h hm;split at he
  ·rename_i xf _;rw[hk]at xf;cases xf
  ·rename_i xf _;rw[hk]at xf;cases xf
  ·rename_i xf _;rw[hk]at xf;cases xf
  ·rename_i n' el' b r c xf hg
   rw[hk]at xf;cases xf;rw[hg]at hx;cases hx with|c hx=>
   generalize dW:a.eval x=av at hx;cases hx with|ptr R hR=>
   split at he
   ·rename_i cells te hb de
    split at he
    ·rename_i hc
     obtain⟨rfl,rfl,rfl,e0,e1,rfl,dG,hlen,hn⟩:=hc;split at he
     ·rename_i ts tg
      cases he;obtain⟨t1,t2⟩:=qp tg;have dS:=iw (hC _ te de);obtain⟨R',gD,im,_⟩:=h.aR b _ hb;rw[hR]at gD;cases gD;obtain⟨S',xM,jQ,O6⟩:=h.xY hb;have EN:mx.map a.eval=none:=by
       cases Hg:mx.map a.eval with
       | none=>rfl
       | some v=>rw[Hg]at bm;exact bm.elim
      have cL:=fu (P:=P) (w:=w) (isSlice:=false) (len:=n) (cap:=n) (mx:=none) (m:=none) bl bh trivial (by simp) (by omega) e0 (by simpa using e1) (by simp);obtain⟨k,En⟩:∃k,k=(oI.getD (n:Int)).toNat:=⟨_,rfl⟩;have Rg:k<=n:=by omega
      let rows:List (List Tree):=(ts.take k).map fun t=>[t]
      have xi:rows.length=k:=by simp only[rows,List.length_map,List.length_take,t1,hlen];omega
      have Re:∀i j t,eJ rows i j=some t->j=0/\i<k/\ts[i]?=some t:=by
       intro i j t ht;obtain⟨row,h1,h2,_,_⟩:=ij ht;simp only[rows,List.getElem?_map,Option.map_eq_some_iff]at h1;obtain⟨u,h3,rfl⟩:=h1;rw[List.getElem?_take]at h3;split at h3
       ·rename_i MB
        cases j with
        | zero=>simp at h2;subst h2;exact⟨rfl,MB,h3⟩
        | succ j=>simp at h2
       ·cases h3
      have WW:∃val:Nat->Nat->Value,∀i j t,eJ rows i j=some t->w.cell? ⟨R.cb,R.co+i*1+j,none⟩=some (val i j)/\dF S' w t (val i j):=by
       have:∀i j,∃v,∀t,eJ rows i j=some t->w.cell? ⟨R.cb,R.co+i*1+j,none⟩=some v/\dF S' w t v:=by
        intro i j;cases ht:eJ rows i j with
        | none=>exact⟨undef,by simp⟩
        | some t=>
         obtain⟨rfl,MB,h3⟩:=Re i j t ht;obtain⟨v,a1,a2⟩:=im.2 i _ (t2 i t h3);cases a2 with|t a2=>
         exact⟨v,fun t' lQ=>by cases lQ;exact⟨by simpa using a1,a2.mono xM fun _ _ _=>rfl⟩⟩
       exact⟨fun i j=>(this i j).choose,fun i j t ht=>(this i j).choose_spec t ht⟩
      obtain⟨val,oL⟩:=WW;have hT:dF S' w (.aa false rows) (.slice (some ⟨R.cb,R.co,none⟩) rows.length n):=
       .aa false rows _ R.cb R.co 1 n val (by omega) (by omega) (by omega) (fun hf=>by cases hf) (fun _=>rfl) (fun hf=>by cases hf) (fun r hr=>by
        obtain⟨u,_,rfl⟩:=List.mem_map.1 hr;rfl) (fun i j t ht=>by
        obtain⟨rfl,MB,_⟩:=Re i j t ht;exact⟨O6 R hR _ (by omega) (by omega),(oL i 0 t ht).1⟩) (fun i j t ht=>(oL i j t ht).2)
      refine⟨w,β,S',.slice (some ⟨R.cb,R.co,none⟩) rows.length n,_,?_,.inl rfl,fun _ _=>rfl,by simpa[dZ]using jQ,?_⟩
      ·simp only[execOp,ho,Instr.sliceAt,Instr.sureAddr,run_underlying (dB.array hk),Sem.run_bind,Sem.run_pure,Result.andThen,dW,EN,cL,dS.sizeOf,Option.getD_none]
       have hz:Int.toNat 0=0:=rfl;have e2:(⟨R.cb,R.co+0*R.af+0,none⟩:Addr)=⟨R.cb,R.co,none⟩:=by simp
       have e3:(⟨R.cb,R.co,none⟩:Addr).add (0*te.size)=⟨R.cb,R.co,none⟩:=by rw[Nat.zero_mul];simp[Addr.add]
       rw[hz,e2,e3,xi,En,Int.toNat_natCast,Nat.sub_zero,Nat.sub_zero];split<;>rfl
      ·rw[<-En]
       exact .c (.t hT)
     ·cases he
    ·cases he
   ·cases he
  ·cases he
 ·cases he
end
section
variable {P:Program} {C:dP} {K:Ctx} {β:Nat->Option bS} {S:Place} {st:St} {a:Act} {w:World} {slot:Nat} {e:bZ} {o:Oper}
theorem tz {h:Hp}:∀ {cs:List Cell} {ts:List Tree} {m:List (Nat×Option aU)},bL h cs=some (ts,m)->∀p∈m,(h p.1).isSome=true
 | [],ts,m,ht=>by simp[bL]at ht;obtain⟨_,rfl⟩:=ht;simp
 | c::cs,ts,m,ht=>by
  unfold bL at ht;split at ht
  ·rename_i t m1 h1
   split at ht
   ·rename_i Mt m2 h2
    cases ht;intro p hp;rcases List.mem_append.1 hp with hp|hp
    ·unfold toTree at h1
     split at h1
     ·cases h1;cases hp
     ·split at h1
      ·rename_i hb
       split at h1
       ·cases h1;simp at hp;subst hp;rw[hb];rfl
       ·cases h1
      ·cases h1
     ·cases h1
    ·exact tz h2 p hp
   ·cases ht
  ·cases ht
theorem CO:∀(ws:List (Nat×Option aU)) (h:bM),(∀p∈ws,p.1<h.length)->look (dZ h ws)=Cp (look h) ws
 | [],h,_=>rfl
 | p::l,h,hp=>by
  rw[gZ,CO l _ (fun q hq=>by rw[List.length_set];exact hp q (List.mem_cons_of_mem _ hq)),Cp];congr 1;funext b;split
  ·rename_i hb;rw[Nat.eq_of_beq_eq_true hb,xO (hp p List.mem_cons_self)]
  ·rename_i hb;rw[rS (fun hh=>by rw[hh,Nat.beq_refl]at hb;cases hb)]
theorem Sat.JU {tm:List AV} {heap:bM} (h:Sat K β S ⟨tm,heap⟩ a w) {b:Nat} {cells:List Cell} {ts:List Tree} {m:List (Nat×Option aU)}
  (hb:look heap b=some (.var cells)) (ht:bL (look heap) cells=some (ts,m)) :
  ∃S',(∀c o,S c o->S' c o)/\Sat K β S' ⟨tm,dZ heap (m ++ [(b,some (.var (ts.map .t)))])⟩ a w:=by
 obtain⟨R,hR,im,_,_⟩:=h.aR b _ hb;obtain⟨⟨uh,dC⟩,Es⟩:=im;obtain⟨vs,IZ⟩:∃vs:List Value,vs=(List.range cells.length).map fun j=>(w.cell? ⟨R.cb,R.co+j,none⟩).getD undef:=⟨_,rfl⟩
 obtain⟨S',hS,jQ,hm,hl,tg⟩:=fD (st:=⟨tm,heap⟩) cells vs heap S ts m h (dT.refl _) (by rw[IZ];simp) (fun i c hi=>by
  obtain⟨v,e1,e2⟩:=Es i c hi;have bH:=(List.getElem?_eq_some_iff.1 hi).1;exact⟨v,by rw[IZ,List.getElem?_map,List.getElem?_range bH,Option.map_some,e1];rfl,e2⟩) ht
 have mc:look (dZ heap m) b=some (.var cells):=by
  rcases hm.2 b with e|⟨_,_,_,_,e,_⟩
  ·exact e.trans hb
  ·exact absurd (hb.symm.trans e) (by simp)
 refine⟨S',hS,?_⟩;rw[Er];obtain⟨R',gD,aef,SV,JE⟩:=jQ.aR b _ mc;rw[hR]at gD;cases gD;have JR:=rQ mc;show Sat K β S' ⟨tm,(dZ heap m).set b (some (.var (ts.map .t)))⟩ a w
 refine jQ.step (D:=fun x=>x=b) (Wr:=fun _ _=>False) (eK.refl _ w) (fun _ _ hx=>hx.elim) (fun _ _ hx=>hx) (fun b' R bK=>by rw[List.length_set];exact jQ.top b' R bK) (fun _ _ hx=>hx) (fun _ _ hx=>.inl hx) (fun b' aR cY bK=>?_) (fun b' aR hD bK=>?_)
 ·rwa[rS cY]at bK
 ·subst hD
  rw[xO JR]at bK;cases bK;refine⟨R,hR,⟨⟨by simpa[hl]using uh,dC⟩,fun j c hj=>?_⟩,fun c o hx=>SV c o (by unfold aU.ext at *;simpa[hl]using hx),fun c o hx=>JE c o (by unfold aU.wr at *;simpa[hl]using hx),fun Cy gY uU cY iG lH c o hx=>?_⟩
  ·rw[List.getElem?_map]at hj
   obtain⟨t,Pp,rfl⟩:=Option.map_eq_some_iff.1 hj
   replace hj:=Pp
   have bH:=(List.getElem?_eq_some_iff.1 hj).1;obtain⟨v,e1,e2⟩:=tg j t hj;rw[hl]at bH;rw[IZ,List.getElem?_map,List.getElem?_range bH,Option.map_some]at e1;have SW:=(uh (R.co+j) (by omega) (by omega)).1;obtain⟨u,hu⟩:=Option.isSome_iff_exists.1 SW;rw[hu]at e1;cases e1;exact⟨u,hu,.t e2⟩
  ·rw[rS cY]at iG
   exact jQ.kX b' Cy _ _ R uU (Ne.symm cY) mc iG hR lH c o (by unfold aU.ext at *;simpa[hl]using hx)
theorem Sat.eS {tm:List AV}:∀(l:List (Nat×Nat×Nat)) {heap:bM} {S:Place} {ws:List (Nat×Option aU)},Sat K β S ⟨tm,heap⟩ a w->Abs.eS (look heap) l=some ws ->
  ∃S',(∀c o,S c o->S' c o)/\Sat K β S' ⟨tm,dZ heap ws⟩ a w
 | [],heap,S,ws,h,hw=>by
  simp[Abs.eS]at hw;subst hw;exact⟨S,fun _ _ hx=>hx,h⟩
 | (b,r,c)::l,heap,S,ws,h,hw=>by
  unfold Abs.eS at hw;split at hw
  ·rename_i cells hb
   split at hw
   ·split at hw
    ·rename_i ts m ht
     split at hw
     ·rename_i ws2 Vn
      cases hw;obtain⟨S1,NQ,h1⟩:=h.JU hb ht;rw[<-CO _ _ (fun p hp=>by
       rcases List.mem_append.1 hp with hp|hp
       ·obtain⟨aR,oQ⟩:=Option.isSome_iff_exists.1 (tz ht p hp)
        exact rQ oQ
       ·simp at hp;subst hp;exact rQ hb)]at Vn
      obtain⟨S2,NR,h2⟩:=Sat.eS l h1 Vn;refine⟨S2,fun c o hx=>NR _ _ (NQ _ _ hx),?_⟩;rw[<-Er,List.append_assoc]at h2;exact h2
     ·cases hw
    ·cases hw
   ·exact Sat.eS l h hw
  ·exact Sat.eS l h hw
theorem E3 (h:Sat K β S st a w) {f:FuncId} {first a8:Array Operand} (ho:o.op=.makeFunc (.func f) first a8)
  (he:evalOp C slot st.get (look st.heap) (.makeFunc (.func f) first a8)=some e):nG P K β S st a w slot o e:=by
 obtain⟨g,l,v,e1,e2,e3,e4⟩:=ER (P:=P) h ho he;rcases e2 with e2|e2
 ·obtain⟨S',hS,h'⟩:=Sat.eS (tm:=st.tmps) l h e2
  exact⟨w,β,S',v,_,e3,.inl rfl,fun _ _=>rfl,h',by rw[e1];exact e4.mono (fun _ _ hx=>hx) hS fun _ _ _=>rfl⟩
 ·exact⟨w,β,S,v,_,e3,.inl rfl,fun _ _=>rfl,by rw[e2];exact h,by rw[e1];exact e4⟩
end
def slotsOf (C:dP):Op->Nat
 | .call { callee:=.value (.func f),.. }=>match C.md f with
  | .sh n::_=>n
  | _=>2
 | .call { callee:=.value _,.. }=>2
 | .call { callee:=.builtin .append,.. }=>1
 | .alloc _|.box _ _|.buildSlice _ _ _|.makeSlice _ _ _|.makeMap _ _=>1
 | _=>0
section
variable {P:Program} {C:dP} {K:Ctx} {β:Nat->Option bS} {S:Place} {st:St} {a:Act} {w:World} {slot:Nat} {e:bZ} {o:Oper}
theorem Gu (hC:bt P C) (h:Sat K β S st a w) (AA:slotsOf C o.op≠0->slot<st.heap.length/\β slot=none) (he:evalOp C slot st.get (look st.heap) o.op=some e):nG P K β S st a w slot o e:=by
 cases dX:o.op with
 | move x=>
  rw[dX]at he;simp only[evalOp]at he;cases he;exact(Jw h (.inl dX) rfl rfl).kg h
 | assign x=>
  rw[dX]at he;simp only[evalOp]at he;cases he;exact(Jw h (.inr dX) rfl rfl).kg h
 | nilCheck x=>rw[dX]at he;exact(EK h dX he).kg h
 | pick c x y=>rw[dX]at he;exact(OP h dX he).kg h
 | alloc t=>rw[dX]at he AA;exact Mu hC h (AA (by simp[slotsOf])).1 (AA (by simp[slotsOf])).2 dX he
 | box t x=>rw[dX]at he AA;exact Sz hC h (AA (by simp[slotsOf])).1 (AA (by simp[slotsOf])).2 dX he
 | build t ps=>rw[dX]at he;exact(Ms hC h dX he).kg h
 | buildSlice t n ps=>rw[dX]at he AA;exact Au hC h (AA (by simp[slotsOf])).1 (AA (by simp[slotsOf])).2 dX he
 | load t x=>rw[dX]at he;exact(ON hC h dX he).kg h
 | store t x y=>rw[dX]at he;exact Mv hC h dX he
 | binOp op t x y t'=>rw[dX]at he;exact(Mh hC h dX he).kg h
 | unOp op t x=>rw[dX]at he;exact(OV h dX he).kg h
 | convert s d x=>rw[dX]at he;simp only[evalOp]at he;exact(Hk hC h dX he).kg h
 | makeSlice t l c=>rw[dX]at he AA;exact CB hC h (AA (by simp[slotsOf])).1 (AA (by simp[slotsOf])).2 dX he
 | slice t x lo hi mx=>rw[dX]at he;simp only[evalOp]at he;exact MA hC h dX he
 | fieldAddr t x f=>rw[dX]at he;exact(Ct hC h dX he).kg h
 | field t x f=>rw[dX]at he;exact(Mc hC h dX he).kg h
 | indexAddr t x i=>rw[dX]at he;exact(Cu hC h dX he).kg h
 | index t x i=>rw[dX]at he;exact(Mi hC h dX he).kg h
 | extract x i=>rw[dX]at he;exact(Hf h dX he).kg h
 | makeFunc fn first a8=>
  rw[dX]at he;cases fn with
  | func f=>exact E3 h dX he
  | _=>simp[evalOp]at he
 | makeMap t r=>rw[dX]at he AA;exact Hm hC h (AA (by simp[slotsOf])).1 (AA (by simp[slotsOf])).2 dX he
 | lookup t x i ok=>rw[dX]at he;exact(Jz hC h dX he).kg h
 | mapUpdate t x i v=>rw[dX]at he;exact CJ hC h dX he
 | call c=>
  rw[dX]at he;obtain⟨callee,args,argTypes⟩:=c;cases callee with
  | builtin b=>
   simp only[evalOp]at he;split at he
   ·rename_i x t h1 h2
    exact(Sa hC h dX h1 h2 he).kg h
   ·rename_i s x t h1 h2
    split at he
    ·rename_i ti cB
     have dB:=iw (hC _ ti cB);split at he
     ·rename_i el hk
      split at he
      ·rename_i te t1 de xg
       split at he
       ·rename_i L9 AD
        have SX:=iw (hC _ L9 AD);split at he
        ·rename_i e' Em
         split at he
         ·cases he
         ·rename_i hz
          exact CG hC h (AA (by simp[dX,slotsOf])).1 (AA (by simp[dX,slotsOf])).2 dX h1 ⟨⟨t,h2,dB.slice hk⟩,t1,xg,.inl ⟨e',SX.slice Em⟩⟩ de (by omega) he
        ·rename_i Em
         split at he
         ·cases he
         ·rename_i hz
          exact CG hC h (AA (by simp[dX,slotsOf])).1 (AA (by simp[dX,slotsOf])).2 dX h1 ⟨⟨t,h2,dB.slice hk⟩,t1,xg,.inr (SX.string Em)⟩ de (by omega) he
        ·cases he
       ·cases he
      ·cases he
     ·cases he
    ·cases he
   ·rename_i d x t h1 h2
    split at he
    ·rename_i ti cB
     have dB:=iw (hC _ ti cB);split at he
     ·rename_i el hk
      split at he
      ·rename_i te de
       split at he
       ·cases he
       ·exact Ph hC h dX h1 h2 (dB.slice hk) de he
      ·cases he
     ·cases he
    ·cases he
   ·rename_i x y h1
    exact(NP (gt:=true) h dX h1 he).kg h
   ·rename_i x y h1
    exact(NP (gt:=false) h dX h1 he).kg h
   ·cases he
  | value f=>simp[evalOp]at he
  | invoke r m=>simp[evalOp]at he
 | _=>rw[dX]at he;simp[evalOp]at he
end
def Cell.aX (ρ:Nat->Nat):Cell->Cell
 | .t x=>.t x
 | .ptr b r c=>.ptr (ρ b) r c
 | .tp row c=>.tp row c
 | .sl b off len cp=>.sl (ρ b) off len cp
 | .mp b=>.mp (ρ b)
 | .dj f a8=>.dj f (a8.map fun p=>(ρ p.1,p.2))
def AV.aX (ρ:Nat->Nat):AV->AV
 | .c x=>.c (x.aX ρ)
 | .agg l=>.agg (l.map (Cell.aX ρ))
 | .oD l=>.oD l
 | .aj=>.aj
def AV.bA:AV->Prop
 | .oD _=>False
 | _=>True
def aU.aX (ρ:Nat->Nat):aU->aU
 | .var cells=>.var (cells.map (Cell.aX ρ))
 | .rows sz l g fz=>.rows sz l g fz
 | .map cF=>.map cF
 | .fR sz l=>.fR sz l
def Cell.eT (ids:List Nat):Cell->Bool
 | .t _=>true
 | .ptr b _ _=>ids.contains b
 | .tp _ _=>true
 | .sl b _ _ _=>ids.contains b
 | .mp b=>ids.contains b
 | .dj _ a8=>a8.all fun p=>ids.contains p.1
def AV.eT (ids:List Nat):AV->Bool
 | .c x=>x.eT ids
 | .agg l=>l.all (·.eT ids)
 | .oD _=>false
 | .aj=>true
def aU.eT (ids:List Nat):aU->Bool
 | .var cells=>cells.all (·.eT ids)
 | .rows _ _ _ fz=>!fz
 | _=>false
def Cell.refs:Cell->List Nat
 | .t _=>[]
 | .ptr b _ _=>[b]
 | .tp _ _=>[]
 | .sl b _ _ _=>[b]
 | .mp b=>[b]
 | .dj _ a8=>a8.map (·.1)
def AV.refs:AV->List Nat
 | .c x=>x.refs
 | .agg l=>l.flatMap Cell.refs
 | _=>[]
def reach (h:Hp):Nat->List Nat->List Nat->List Nat
 | 0,_,acc=>acc
 | _+1,[],acc=>acc
 | n+1,b::l,acc=>match acc.contains b with
  | true=>reach h n l acc
  | false=>match h b with
   | some (.var cells)=>reach h n (l++cells.flatMap Cell.refs) (acc ++ [b])
   | _=>reach h n l (acc ++ [b])
def ej (h:Hp) (ids:List Nat) (bJ:List AV):St:=
 ⟨bJ.map (AV.aX fun b=>posOf b ids),ids.map fun b=>(h b).map (aU.aX fun b=>posOf b ids)⟩
def rW (h:Hp) (ids:List Nat) (bJ:List AV):Bool:=
 decide ids.Nodup&&(ids.all fun b=>match h b with|some aR=>aR.eT ids|none=>false)&&bJ.all (·.eT ids)
def oT (h:Hp) (bJ:List AV):Option (List Nat×St):=
 let ids:=reach h 200 (bJ.flatMap AV.refs) []
 if rW h ids bJ then some (ids,ej h ids bJ) else none
def ep (P:Program) (f:FuncId) (s s':St):Prop:=
 (∃fn,P.funcs[f]?=some fn/\fn.body.isSome=true/\(fn.name == "runtime.NumGoroutine")=false) /\
 ∀(K:Ctx) (β:Nat->Option bS) (S:Place) (a:Act) (w:World),(∀i R,K.β0 i=some R->i<s.heap.length)->Sat K β S s a w ->
  Calls P f a.tmps w fun e w'=>∃(us:List Value) (β':Nat->Option bS) (S':Place),e=.returned (if us.length=1 then us.getD 0 undef else .tuple us.toArray)/\us.length=s'.tmps.length/\Sat K β' S' s' { a with tmps:=us.toArray } w'
def dc (ids:List Nat) (slot:Nat) (k:Nat):Nat:=if k<ids.length then ids.getD k 0 else slot+(k-ids.length)
def fV (ids:List Nat) (slot:Nat) (ρ:Nat->Nat):List (Option aU)->Nat->List (Nat×Option aU)
 | [],_=>[]
 | o::os,k=>(dc ids slot k,o.map (aU.aX ρ))::fV ids slot ρ os (k+1)
def AV.flat:AV->Bool
 | .oD _=>false
 | _=>true
def vk (ids:List Nat) (slot lC:Nat) (s':St):Option bZ:=
 if ids.length<=s'.heap.length/\s'.heap.length<=ids.length+lC/\s'.tmps.all AV.flat=true then
  some { val:=EX (s'.tmps.map (AV.aX (dc ids slot))),wr:=fV ids slot (dc ids slot) s'.heap 0,rd:=ids }
 else none
section
variable {β β':Nat->Option bS} {S:Place} {w:World} {n:Nat} {ρ:Nat->Nat}
theorem dd.fwd {c:Cell} {v:Value} (h:dd β S w c v) (hb:∀b R,β b=some R->β' (ρ b)=some R):dd β' S w (c.aX ρ) v:=by
 cases h with
 | t h=>exact .t h
 | ptr R h=>exact .ptr R (hb _ _ h)
 | tp cb co val h=>exact .tp cb co val h
 | sl R base cap h h1 h2 h3 h4 h5=>exact .sl R base cap (hb _ _ h) h1 h2 h3 h4 h5
 | mp R h=>exact .mp R (hb _ _ h)
 | dj vs h1 h2=>
  refine .dj vs (by rw[h1,List.length_map]) fun i b r c hi=>?_
  rw[List.getElem?_map]at hi;obtain⟨⟨b',r',c'⟩,oI,e⟩:=Option.map_eq_some_iff.1 hi;cases e;obtain⟨R,e1,e2⟩:=h2 i b' r c oI;exact⟨R,hb _ _ e1,e2⟩
theorem aY.fwd {x:AV} {v:Value} (h:aY β S w x v) (ht:x.bA) (hb:∀b R,β b=some R->β' (ρ b)=some R):aY β' S w (x.aX ρ) v:=by
 cases h with
 | c h=>exact .c (h.fwd hb)
 | agg vs h1 h2=>
  refine .agg vs (by rw[h1,List.length_map]) fun i c hi=>?_
  rw[List.getElem?_map]at hi;obtain⟨c',oI,rfl⟩:=Option.map_eq_some_iff.1 hi;obtain⟨v,e1,e2⟩:=h2 i c' oI;exact⟨v,e1,e2.fwd hb⟩
 | oD vs val h1 h2 h3=>exact ht.elim
 | aj=>exact .aj v
theorem aU.iV {aR:aU} {R:bS}:(aR.aX ρ).ext R=aR.ext R:=by
 cases aR<;>(funext b o;simp[aU.aX,aU.ext])
theorem aU.Gv {aR:aU} {R:bS}:(aR.aX ρ).wr R=aR.wr R:=by
 cases aR<;>(funext b o;simp[aU.aX,aU.wr])
theorem dR.fwd {aR:aU} {R:bS} {B B':Nat} (h:dR β S w B R aR) (hB:B'<=B) (hb:∀b R,β b=some R->β' (ρ b)=some R):dR β' S w B' R (aR.aX ρ):=by
 cases aR with
 | var cells=>
  refine⟨⟨by rw[List.length_map];exact h.1.1,h.1.2⟩,fun j c hj=>?_⟩;rw[List.getElem?_map]at hj;obtain⟨c',Pp,rfl⟩:=Option.map_eq_some_iff.1 hj;obtain⟨v,e1,e2⟩:=h.2 j c' Pp;exact⟨v,e1,e2.fwd hb⟩
 | rows sz rows g fz=>exact h
 | map cF=>exact⟨Nat.le_trans hB h.1,h.2⟩
 | fR sz rows=>exact h
theorem ml {b:Nat}:∀ {l:List Nat},b∈l->posOf b l<l.length/\l.getD (posOf b l) 0=b
 | x::l,h=>by
  unfold posOf;split
  ·rename_i e
   exact⟨by simp,by simpa using (Nat.eq_of_beq_eq_true e).symm⟩
  ·rename_i e
   have cY:b≠x:=fun h'=>by rw[h',Nat.beq_refl]at e;cases e
   obtain⟨h1,h2⟩:=ml ((List.mem_cons.1 h).resolve_left cY);exact⟨by simp;omega,by simpa using h2⟩
theorem dd.view {ids:List Nat} {c:Cell} {v:Value} (h:dd β S w c v) (hc:c.eT ids=true):dd (fun k=>if k<ids.length then β (ids.getD k 0) else none) S w (c.aX fun b=>posOf b ids) v:=by
 have key:∀b R,ids.contains b=true->β b=some R->(if posOf b ids<ids.length then β (ids.getD (posOf b ids) 0) else none)=some R:=fun b R hb hR=>by
  obtain⟨h1,h2⟩:=ml (List.contains_iff_mem.1 hb);rw[if_pos h1,h2];exact hR
 cases h with
 | t h=>exact .t h
 | ptr R h=>exact .ptr R (key _ _ hc h)
 | tp cb co val h=>exact .tp cb co val h
 | sl R base cap h h1 h2 h3 h4 h5=>exact .sl R base cap (key _ _ hc h) h1 h2 h3 h4 h5
 | mp R h=>exact .mp R (key _ _ hc h)
 | dj vs h1 h2=>
  refine .dj vs (by rw[h1,List.length_map]) fun i b r c hi=>?_
  rw[List.getElem?_map]at hi;obtain⟨⟨b',r',c'⟩,oI,e⟩:=Option.map_eq_some_iff.1 hi;cases e;obtain⟨R,e1,e2⟩:=h2 i b' r c oI;exact⟨R,key _ _ (List.all_eq_true.1 hc _ (List.mem_of_getElem? oI)) e1,e2⟩
theorem aY.view {ids:List Nat} {x:AV} {v:Value} (h:aY β S w x v) (hc:x.eT ids=true):aY (fun k=>if k<ids.length then β (ids.getD k 0) else none) S w (x.aX fun b=>posOf b ids) v:=by
 cases h with
 | c h=>exact .c (h.view hc)
 | agg vs h1 h2=>
  refine .agg vs (by rw[h1,List.length_map]) fun i c hi=>?_
  rw[List.getElem?_map]at hi;obtain⟨c',oI,rfl⟩:=Option.map_eq_some_iff.1 hi;obtain⟨v,e1,e2⟩:=h2 i c' oI;exact⟨v,e1,e2.view (List.all_eq_true.1 hc c' (List.mem_of_getElem? oI))⟩
 | oD=>cases hc
 | aj=>exact .aj v
theorem dR.view {ids:List Nat} {aR:aU} {R:bS} {B B':Nat} (h:dR β S w B R aR) (hc:aR.eT ids=true):dR (fun k=>if k<ids.length then β (ids.getD k 0) else none) S w B' R (aR.aX fun b=>posOf b ids):=by
 cases aR with
 | var cells=>
  refine⟨⟨by rw[List.length_map];exact h.1.1,h.1.2⟩,fun j c hj=>?_⟩;rw[List.getElem?_map]at hj;obtain⟨c',Pp,rfl⟩:=Option.map_eq_some_iff.1 hj;obtain⟨v,e1,e2⟩:=h.2 j c' Pp;exact⟨v,e1,e2.view (List.all_eq_true.1 hc c' (List.mem_of_getElem? Pp))⟩
 | rows sz rows g fz=>exact h
 | map cF=>cases hc
 | fR sz rows=>cases hc
theorem aU.JV {ids:List Nat} {aR:aU} (h:aR.eT ids=true) {R:bS} {c o:Nat} (hx:aR.ext R c o):aR.wr R c o:=by
 cases aR with
 | var cells=>exact hx
 | rows sz rows g fz=>
  have:fz=false:=by simpa[aU.eT]using h
  subst this;exact⟨hx.1,by simpa using hx.2.1,hx.2.2⟩
 | map=>cases h
 | fR=>cases h
theorem qq:∀(l:List (Nat×Option aU)) (h:bM) (b:Nat) (x:Option aU),(Abs.ids l).Nodup->(b,x)∈l->b<h.length->look (dZ h l) b=x
 | p::l,h,b,x,hn,hm,hb=>by
  simp only[Abs.ids,List.map_cons,List.nodup_cons]at hn;rw[gZ];rcases List.mem_cons.1 hm with e|hm
  ·subst e
   rw[I7 l _ hn.1,xO hb]
  ·exact qq l _ b x hn.2 hm (by simpa using hb)
end
section
variable {P:Program} {C:dP} {K:Ctx} {β:Nat->Option bS} {S:Place} {st:St} {a:Act} {w:World} {slot:Nat} {e:bZ} {o:Oper} {f:FuncId}
def CQ (hv:bM) (βv:Nat->Option bS):Place:=fun c o=>∃k aR R,look hv k=some aR/\βv k=some R/\aR.ext R c o
theorem gG {h:Hp} {ids:List Nat} {k:Nat} {aR:aU} (hl:look (ids.map fun b=>(h b).map (aU.aX fun b=>posOf b ids)) k=some aR) :
  k<ids.length/\∃b0,h (ids.getD k 0)=some b0/\aR=b0.aX fun b=>posOf b ids:=by
 have bH:=rQ hl;rw[List.length_map]at bH;unfold look at hl;rw[List.getElem?_map,List.getElem?_eq_getElem bH]at hl;simp only[Option.map_some,Option.join_some]at hl;obtain⟨b0,h1,h2⟩:=Option.map_eq_some_iff.1 hl;exact⟨bH,b0,by rw[List.getD_eq_getElem?_getD,List.getElem?_eq_getElem bH];exact h1,h2.symm⟩
theorem g7 {ids:List Nat} {k:Nat} (h:k<ids.length):ids.getD k 0∈ids:=by
 rw[List.getD_eq_getElem?_getD,List.getElem?_eq_getElem h];exact List.getElem_mem h
theorem getD_inj {ids:List Nat} (hn:ids.Nodup) {i j:Nat} (hi:i<ids.length) (hj:j<ids.length) (h:ids.getD i 0=ids.getD j 0):i=j:=by
 rw[List.getD_eq_getElem?_getD,List.getD_eq_getElem?_getD,List.getElem?_eq_getElem hi,List.getElem?_eq_getElem hj]at h;exact(List.getElem_inj hn).1 h
theorem JW (h:Sat K β S st a w) {ids:List Nat} {bJ:List AV} {bn:List Value} (hl:bn.length=bJ.length) (hr:∀(i:Nat) (x:AV),bJ[i]?=some x->∃v,bn[i]?=some v/\aY β S w x v)
  (hn:ids.Nodup) (hb:∀b∈ids,∃aR,look st.heap b=some aR/\aR.eT ids=true) (ha:∀x∈bJ,x.eT ids=true) :
  Sat ⟨w,CQ (ej (look st.heap) ids bJ).heap (fun k=>if k<ids.length then β (ids.getD k 0) else none),S,fun k=>if k<ids.length then β (ids.getD k 0) else none⟩
   (fun k=>if k<ids.length then β (ids.getD k 0) else none) S (ej (look st.heap) ids bJ) { a with tmps:=bn.toArray } w:=by
 refine⟨by simp[ej,hl],h.defers,fun t x ht=>?_,fun k R hk=>?_,fun k aR hk=>?_,fun k k' aR cR R R' cY hk xf hR gD=>?_,h.rH,fun _ _ hs=>.inl hs,fun _ _ hs=>hs,eK.refl _ _,fun _ _ hi=>hi⟩
 ·simp only[ej,List.getElem?_map]at ht
  obtain⟨x0,h1,rfl⟩:=Option.map_eq_some_iff.1 ht;obtain⟨v,h2,h3⟩:=hr t x0 h1;have:({ a with tmps:=bn.toArray }:Act).tmps.getD t undef=v:=by simp[h2]
  rw[this];exact h3.view (ha x0 (List.mem_of_getElem? h1))
 ·split at hk
  ·rename_i bH;simpa[ej]using bH
  ·cases hk
 ·obtain⟨bH,b0,h1,h2⟩:=gG hk
  obtain⟨b1,h3,h4⟩:=hb _ (g7 bH);rw[h3]at h1;cases h1;obtain⟨R,g1,g2,g3,g4⟩:=h.aR _ _ h3;subst h2;have hβ:(if k<ids.length then β (ids.getD k 0) else none)=some R:=by rw[if_pos bH];exact g1
  refine⟨R,hβ,g2.view h4,fun c o hx=>⟨?_,.inr ⟨k,_,R,hk,hβ,hx⟩⟩,fun c o hx=>?_⟩
  ·rw[aU.iV]at hx;exact(g3 c o hx).1
  ·rw[aU.Gv]at hx;exact g4 c o hx
 ·obtain⟨bH,b0,h1,h2⟩:=gG hk
  obtain⟨rT,b0',NM,Gp⟩:=gG xf;rw[if_pos bH]at hR;rw[if_pos rT]at gD;have:=h.kX (ids.getD k 0) (ids.getD k' 0) _ _ R R' (fun e=>cY (getD_inj hn bH rT e)) h1 NM hR gD;subst h2 Gp;rw[aU.iV,aU.iV];exact this
theorem vn {ids:List Nat} {slot:Nat} {ρ:Nat->Nat}:∀(l:List (Option aU)) (k0:Nat),(∀p∈fV ids slot ρ l k0,∃j,j<l.length/\p=(dc ids slot (k0+j),((l[j]?).join).map (aU.aX ρ)))/\(∀j,j<l.length->(dc ids slot (k0+j),((l[j]?).join).map (aU.aX ρ))∈fV ids slot ρ l k0)
 | [],k0=>⟨by simp[fV],by simp⟩
 | x::l,k0=>by
  obtain⟨h1,h2⟩:=vn (ids:=ids) (slot:=slot) (ρ:=ρ) l (k0+1);refine⟨fun p hp=>?_,fun j hj=>?_⟩
  ·rw[fV]at hp
   rcases List.mem_cons.1 hp with rfl|hp
   ·exact⟨0,by simp,by simp⟩
   ·obtain⟨j,e1,e2⟩:=h1 p hp
    exact⟨j+1,by simpa using e1,by rw[e2,show k0+1+j=k0+(j+1) by omega];simp⟩
  ·rw[fV]
   cases j with
   | zero=>simp
   | succ j=>
    have:=h2 j (by simpa using hj);rw[show k0+1+j=k0+(j+1) by omega]at this;exact List.mem_cons_of_mem _ (by simpa using this)
theorem CR {ids:List Nat} {slot lC:Nat} (hn:ids.Nodup) (hs:∀b∈ids,b<slot∨slot+lC<=b) {i j:Nat} (oI:i<ids.length+lC) (Pp:j<ids.length+lC) (h:dc ids slot i=dc ids slot j):i=j:=by
 unfold dc at h;split at h
 ·rename_i hi
  split at h
  ·rename_i hj;exact getD_inj hn hi hj h
  ·have:=hs _ (g7 hi);omega
 ·split at h
  ·rename_i hj
   have:=hs _ (g7 hj);omega
  ·omega
theorem oU {ids:List Nat} {slot:Nat} {ρ:Nat->Nat}:∀(l:List (Option aU)) (k0:Nat),Abs.ids (fV ids slot ρ l k0)=(List.range' k0 l.length).map (dc ids slot)
 | [],k0=>rfl
 | x::l,k0=>by
  have:=oU (ids:=ids) (slot:=slot) (ρ:=ρ) l (k0+1);simp only[Abs.ids]at this;simp[fV,Abs.ids,this,List.range'_succ]
theorem JX (h:Sat K β S st a w) {rN:FuncId} {ids:List Nat} {bJ:List AV} {bn:List Value} {s':St} {lC:Nat} (hl:bn.length=bJ.length) (hr:∀(i:Nat) (x:AV),bJ[i]?=some x->∃v,bn[i]?=some v/\aY β S w x v)
  (hv:rW (look st.heap) ids bJ=true) (ch:ep P rN (ej (look st.heap) ids bJ) s') (hs:0<lC->slot+lC<=st.heap.length) (hf:∀b,slot<=b->b<slot+lC->β b=none)
  (he:vk ids slot lC s'=some e) :
  Calls P rN bn.toArray w fun en w'=>∃v β' S',en=.returned v/\(∀b,b<slot∨slot+lC<=b->β' b=β b)/\Sat K β' S' ⟨st.tmps,dZ st.heap e.wr⟩ a w'/\aY β' S' w' e.val v:=by
 unfold rW at hv;simp only[Bool.and_eq_true]at hv;obtain⟨⟨Me,Cq⟩,ha0⟩:=hv;have hn:ids.Nodup:=by simpa using Me
 have hb:∀b∈ids,∃aR,look st.heap b=some aR/\aR.eT ids=true:=fun b hb=>by
  have:=List.all_eq_true.1 Cq b hb;split at this
  ·exact⟨_,by assumption,this⟩
  ·cases this
 have ha:∀x∈bJ,x.eT ids=true:=List.all_eq_true.1 ha0;unfold vk at he;split at he
 ·rename_i hlen
  cases he;have Gw:∀x∈s'.tmps,x.bA:=fun x hx=>by
   have:=List.all_eq_true.1 hlen.2.2 x hx;cases x<;>first|trivial|(simp[AV.flat]at this)
  have jQ:=JW h hl hr hn hb ha;refine(ch.2 _ _ S { a with tmps:=bn.toArray } w (fun i R hi=>?_) jQ).mono ?_
  ·simp only at hi
   split at hi
   ·rename_i bH;simpa[ej]using bH
   ·cases hi
  rintro en w' ⟨us,β1,S1,rfl,Et,h1⟩
  have My:∀b∈ids,b<slot∨slot+lC<=b:=fun b JY=>by
   obtain⟨aR,e1,_⟩:=hb b JY;obtain⟨R,e2,_⟩:=h.aR b aR e1;rcases Nat.lt_or_ge b slot with h'|h'
   ·exact .inl h'
   ·rcases Nat.lt_or_ge b (slot+lC) with E4|E4
    ·rw[hf b h' E4]at e2;cases e2
    ·exact .inr E4
  have JS:∀b∈ids,b<st.heap.length:=fun b JY=>by obtain⟨aR,e1,_⟩:=hb b JY;exact rQ e1
  let β2:Nat->Option bS:=fun b=>if slot<=b/\b<slot+lC then β1 (ids.length+(b-slot)) else β b
  have Hl:∀b R,β b=some R->β2 b=some R:=fun b R hR=>by
   show(if _ then _ else _)=_
   rw[if_neg (fun hc=>by rw[hf b hc.1 hc.2]at hR;cases hR)];exact hR
  have qo:∀k R,β1 k=some R->β2 (dc ids slot k)=some R:=fun k R hR=>by
   have hk:=h1.top k R hR;unfold dc;split
   ·rename_i bH
    obtain⟨aR,e1,_⟩:=hb _ (g7 bH);obtain⟨R0,e2,_⟩:=h.aR _ aR e1;have e3:=h1.arg k R0 (by simp only;rw[if_pos bH];exact e2);rw[hR]at e3;cases e3;exact Hl _ _ e2
   ·show(if _ then _ else _)=_
    rw[if_pos (by omega),show ids.length+(slot+(k-ids.length)-slot)=k by omega];exact hR
  have JZ:∀c o,CQ (ej (look st.heap) ids bJ).heap (fun k=>if k<ids.length then β (ids.getD k 0) else none) c o->∃b∈ids,∃aR R,look st.heap b=some aR/\aR.eT ids=true/\β b=some R/\aR.ext R c o:=by
   rintro c o ⟨k,aR,R,g1,g2,g3⟩
   obtain⟨bH,b0,g4,rfl⟩:=gG g1;obtain⟨b1,g5,g6⟩:=hb _ (g7 bH);rw[g5]at g4;cases g4;rw[aU.iV]at g3;simp only at g2;rw[if_pos bH]at g2;exact⟨_,g7 bH,_,R,g5,g6,g2,g3⟩
  have WX:(dZ st.heap (fV ids slot (dc ids slot) s'.heap 0)).length=st.heap.length:=JC _ _;have nH:(Abs.ids (fV ids slot (dc ids slot) s'.heap 0)).Nodup:=by
   rw[oU];refine List.pairwise_map.2 (List.Pairwise.imp_of_mem ?_ (List.nodup_range' (step:=1)));intro i j hi hj CN he;rw[List.mem_range'_1]at hi hj;exact CN (CR hn My (by omega) (by omega) he)
  have WY:∀k,k<s'.heap.length->dc ids slot k<st.heap.length:=fun k hk=>by
   unfold dc;split
   ·rename_i bH;exact JS _ (g7 bH)
   ·have:=hs (by omega);omega
  have mb:∀k,k<s'.heap.length->look (dZ st.heap (fV ids slot (dc ids slot) s'.heap 0)) (dc ids slot k)=(look s'.heap k).map (aU.aX (dc ids slot)):=fun k hk=>by
   have:=(vn (ids:=ids) (slot:=slot) (ρ:=dc ids slot) s'.heap 0).2 k hk;rw[Nat.zero_add]at this;exact qq _ _ _ _ nH this (WY k hk)
  let D:Nat->Prop:=fun b=>∃k,k<s'.heap.length/\b=dc ids slot k
  have SY:∀b∈ids,D b:=fun b JY=>by
   obtain⟨g1,g2⟩:=ml JY;exact⟨posOf b ids,by omega,by unfold dc;rw[if_pos g1,g2]⟩
  have J0:∀b,¬D b->look (dZ st.heap (fV ids slot (dc ids slot) s'.heap 0)) b=look st.heap b:=fun b hD=>by
   refine I7 _ _ fun hm=>hD ?_
   rw[oU]at hm;obtain⟨k,hk,rfl⟩:=List.mem_map.1 hm;rw[List.mem_range'_1]at hk;exact⟨k,by omega,rfl⟩
  have E5:∀c o,(w.heap.size<=c∨CQ (ej (look st.heap) ids bJ).heap (fun k=>if k<ids.length then β (ids.getD k 0) else none) c o)->K.B0<=c∨K.W c o:=by
   rintro c o (hc|hc)
   ·exact .inl (by have:=h.jh.size;unfold Ctx.B0;omega)
   ·obtain⟨b,_,aR,R,g1,_,g3,g4⟩:=JZ c o hc
    obtain⟨R',k1,_,k3,_⟩:=h.aR b aR g1;rw[g3]at k1;cases k1;exact(k3 c o g4).2
  have oE:∀c o,(w.heap.size<=c∨CQ (ej (look st.heap) ids bJ).heap (fun k=>if k<ids.length then β (ids.getD k 0) else none) c o)->∀b aR R,¬D b->look st.heap b=some aR->β b=some R->¬aR.ext R c o:=by
   rintro c o hc b aR R hD gz hR hx
   obtain⟨R',k1,_,k3,_⟩:=h.aR b aR gz;rw[hR]at k1;cases k1;rcases hc with hc|hc
   ·have:=(k3 c o hx).1;omega
   ·obtain⟨b2,hm,Ho,R2,g1,_,g3,g4⟩:=JZ c o hc
    exact h.kX b2 b Ho aR R2 R (fun e=>hD (e▸SY b2 hm)) g1 gz g3 hR c o g4 hx
  have gB:Sat K β2 S1 ⟨st.tmps,dZ st.heap (fV ids slot (dc ids slot) s'.heap 0)⟩ a w':=by
   refine h.step (Wr:=CQ (ej (look st.heap) ids bJ).heap (fun k=>if k<ids.length then β (ids.getD k 0) else none)) D h1.jh (fun c o hx bH=>?_) Hl (fun b R hR=>?_) h1.sub (fun c o ji=>?_) (fun b aR hD gz=>by rw[J0 b hD]at gz;exact gz) (fun b aR hD gz=>?_)
   ·refine⟨fun hsS=>?_,E5 c o (.inr hx),oE c o (.inr hx)⟩
    obtain⟨b,hm,aR,R,g1,g2,g3,g4⟩:=JZ c o hx;obtain⟨R',k1,_,_,k4⟩:=h.aR b aR g1;rw[g3]at k1;cases k1;exact k4 c o (aU.JV g2 g4) hsS
   ·rw[WX]
    have gD:(if slot<=b/\b<slot+lC then β1 (ids.length+(b-slot)) else β b)=some R:=hR;split at gD
    ·have:=hs (by omega);omega
    ·exact h.top b R gD
   ·rcases h1.sin c o ji with MC|MC
    ·exact .inl MC
    ·exact .inr ⟨h1.rH c o ji,E5 c o MC,fun b aR R hD gz hR hx=>oE c o MC b aR R hD gz hR (aU.fb hx)⟩
   ·obtain⟨k,hk,rfl⟩:=hD
    rw[mb k hk]at gz;obtain⟨SZ,tX,rfl⟩:=Option.map_eq_some_iff.1 gz;obtain⟨R,q1,q2,q3,q4⟩:=h1.aR k SZ tX;refine⟨R,qo k R q1,q2.fwd h.jh.size qo,fun c o hx=>?_,fun c o hx=>?_,fun b2 Ho R2 cY mc rL c o hx hy=>?_⟩
    ·rw[aU.iV]at hx
     exact⟨(q3 c o hx).1,E5 c o (q3 c o hx).2⟩
    ·rw[aU.Gv]at hx;exact q4 c o hx
    ·rw[aU.iV]at hx
     by_cases WZ:D b2
     ·obtain⟨k2,En,rfl⟩:=WZ
      rw[mb k2 En]at mc;obtain⟨S3,hb3,rfl⟩:=Option.map_eq_some_iff.1 mc;obtain⟨R3,r1,_⟩:=h1.aR k2 S3 hb3;have r2:=qo k2 R3 r1;rw[rL]at r2;cases r2;rw[aU.iV]at hy;exact h1.kX k k2 SZ S3 R R2 (fun e=>cY (by rw[e])) tX hb3 q1 r1 c o hx hy
     ·rw[J0 b2 WZ]at mc
      have W3:β b2=some R2:=by
       obtain⟨R3,r1,_⟩:=h.aR b2 Ho mc;have:=Hl b2 R3 r1;rw[rL]at this;cases this;exact r1
      exact oE c o (q3 c o hx).2 b2 Ho R2 WZ mc W3 hy
  refine⟨_,β2,S1,rfl,fun b uT=>?_,gB,?_⟩
  ·show(if _ then _ else _)=_
   rw[if_neg (by omega)]
  ·refine ve (by rw[Et,List.length_map]) fun i x hi=>?_
   rw[List.getElem?_map]at hi;obtain⟨y,hy,rfl⟩:=Option.map_eq_some_iff.1 hi;have bH:i<us.length:=by rw[Et];exact(List.getElem?_eq_some_iff.1 hy).1
   have:=h1.tmps i y hy;refine⟨us[i],List.getElem?_eq_getElem bH,?_⟩;have e1:({ ({ a with tmps:=bn.toArray }:Act) with tmps:=us.toArray }:Act).tmps.getD i undef=us[i]:=by simp[bH]
   rw[e1]at this;exact this.fwd (Gw y (List.mem_of_getElem? hy)) qo
 ·cases he
end
def St.app (st:St) (o:Oper) (e:bZ):St:=⟨match o.dst with|some d=>st.tmps.set d e.val|none=>st.tmps,dZ st.heap e.wr⟩
def AE (want:Bool):AV->Option Bool
 | .oD []=>some false
 | x=>x.bool?.map (· == want)
def qx:bZ:={ val:=.oD [] }
def gO (tmps:List AV) (ops:List Oper) (o:Oper):Option Bool:=
 match o.guard with
 | none=>some true
 | some (j,want)=>match(ops[j]?).bind (·.dst) with
  | some d=>AE want (tmps.getD d .aj)
  | none=>none
theorem qy (g:FuncId):Nat.blt g nC=decide (g<nC):=by
 rw[Bool.eq_iff_iff,decide_eq_true_eq,Nat.blt_eq]
def rX (fv:AV) (bJ:List AV):Option (FuncId×List AV):=
 match fv with
 | .c (.t (.v (.func (.func g) first cap)))=>if first.size=0/\cap.size=0 then some (g,bJ) else none
 | .c (.dj g a8)=>match decide (g<nC) with
  | true=>some (g,bJ++a8.map fun p=>.c (.ptr p.1 p.2.1 p.2.2))
  | false=>some (g-nC,(a8.map fun p=>.c (.ptr p.1 p.2.1 p.2.2))++bJ)
 | _=>none
def eU (P:Program) (C:dP) (ops:List Oper) (slot:Nat) (o:Oper) (st:St) (k:bZ->Prop):Prop:=
 match gO st.tmps ops o with
 | none=>False
 | some false=>k qx
 | some true=>
  match o.op with
  | .call { callee:=.value f,args,.. }=>
   match rX (st.get f) (args.toList.map st.get) with
   | none=>False
   | some (rN,bJ)=>
    match C.md rN with
    | .sh _::_=>
     match oT (look st.heap) bJ with
     | none=>False
     | some (ids,s)=>∃s',ep P rN s s'/\match vk ids slot (slotsOf C o.op) s' with
      | some e=>k e
      | none=>False
    | ms=>
     match eh (look st.heap) ms bJ with
     | none=>False
     | some (as,marks,dE)=>∃res,aA P rN as res/\match fU (look st.heap) slot marks dE res with
      | some e=>k e
      | none=>False
  | op=>match evalOp C slot st.get (look st.heap) op with
   | some e=>k e
   | none=>False
section
variable {P:Program} {C:dP} {K:Ctx} {β:Nat->Option bS} {S:Place} {st:St} {a:Act} {w:World} {slot:Nat} {e:bZ} {o:Oper} {ops:List Oper}
theorem CS {C:dP} {σ:Operand->AV} {h:Hp} {op:Op} (hs:slotsOf C op=0) (s s':Nat):evalOp C s σ h op=evalOp C s' σ h op:=by
 cases op with
 | call c=>
  obtain⟨callee,args,argTypes⟩:=c;cases callee with
  | builtin b=>cases b<;>first|(simp[slotsOf]at hs;done)|rfl|(simp only[evalOp];split<;>first|rfl|simp_all)
  | _=>rfl
 | makeFunc fn first a8=>cases fn<;>rfl
 | _=>first|(simp[slotsOf]at hs;done)|rfl
theorem J1 (hC:bt P C) (h:Sat K β S st a w) (h0:slotsOf C o.op=0) (he:evalOp C slot st.get (look st.heap) o.op=some e) :
  ∃w' β' S' v nx,(execOp a.eval o).run P w=.ok nx w'/\(nx=.value v∨(nx=.skip/\v=undef))/\(∀b,β' b=β b)/\Sat K β' S' ⟨st.tmps,dZ st.heap e.wr⟩ a w'/\aY β' S' w' e.val v:=by
 rw[CS h0 slot st.heap.length]at he;obtain⟨w',β',S',v,nx,h1,h2,h3,h4,h5⟩:=Gu hC h (fun hn=>absurd h0 hn) he;refine⟨w',β',S',v,nx,h1,h2,fun b=>?_,h4,h5⟩
 by_cases hb:b=st.heap.length
 ·subst hb
  have e1:β st.heap.length=none:=by
   cases hx:β st.heap.length with
   | none=>rfl
   | some R=>have:=h.top _ _ hx;omega
  have e2:β' st.heap.length=none:=by
   cases hx:β' st.heap.length with
   | none=>rfl
   | some R=>have:=h4.top _ _ hx;rw[JC]at this;omega
  rw[e1,e2]
 ·exact h3 b hb
theorem xZ (h:Sat K β S st a w) {b:Bool} (hw:gO st.tmps ops o=some b):Region.wanted o (yielded ops.toArray a.tmps)=b:=by
 unfold gO at hw;unfold Region.wanted;split at hw
 ·cases hw;simp_all
 ·rename_i j want hg
  rw[hg];simp only;split at hw
  ·rename_i d hd
   have bH:d<st.tmps.length:=by
    rcases Nat.lt_or_ge d st.tmps.length with h|h
    ·exact h
    ·rw[List.getD_eq_getElem?_getD,List.getElem?_eq_none h]at hw;simp[AE,AV.bool?]at hw
   have hv:=h.tmps d _ (List.getElem?_eq_getElem bH);rw[List.getD_eq_getElem?_getD,List.getElem?_eq_getElem bH,Option.getD_some]at hw;unfold AE at hw;split at hw
   ·rename_i hx
    cases hw;rw[hx]at hv;have hun:a.tmps.getD d undef=.tuple #[]:=by
     generalize a.tmps.getD d undef=v at hv;cases hv with
     | oD vs val h1 h2 h3=>
      have:vs=[]:=List.length_eq_zero_iff.1 h1;subst this;rfl
    have rT:d<a.tmps.size:=by rw[h.len];exact bH
    have hy:yielded ops.toArray a.tmps j=none:=by
     unfold yielded;have:(ops.toArray[j]?).bind (·.dst)=some d:=by simpa using hd
     rw[this];simp only[Option.bind_some];rw[Array.getD_eq_getD_getElem?,Array.getElem?_eq_getElem rT,Option.getD_some]at hun;rw[Array.getElem?_eq_getElem rT,hun]
    rw[hy];rfl
   obtain⟨c,h1,h2⟩:=Option.map_eq_some_iff.1 hw;have hb:=hv.bool h1;have rT:d<a.tmps.size:=by rw[h.len];exact bH
   have hy:yielded ops.toArray a.tmps j=some c:=by
    unfold yielded;have:(ops.toArray[j]?).bind (·.dst)=some d:=by simpa using hd
    rw[this];simp only[Option.bind_some];rw[Array.getD_eq_getD_getElem?,Array.getElem?_eq_getElem rT,Option.getD_some]at hb;rw[Array.getElem?_eq_getElem rT,hb]
   rw[hy,<-h2];simp
  ·cases hw
theorem kn (h:Sat K β S ⟨st.tmps,dZ st.heap e.wr⟩ a w) {v:Value} (hv:aY β S w e.val v):Sat K β S (st.app o e) (a.put o.dst v) w:=h.put hv o.dst
theorem vq (h:Sat K β S st a w) {f:Operand} {args:Array Operand} {rN:FuncId} {bJ:List AV} (hc:rX (st.get f) (args.toList.map st.get)=some (rN,bJ))
  {argTypes:Array TypeId} (ho:o.op=.call { callee:=.value f,args,argTypes }) (iN:∃fn,P.funcs[rN]?=some fn/\fn.body.isSome=true/\(fn.name == "runtime.NumGoroutine")=false) :
  ∃bn:List Value,(execOp a.eval o).run P w=.ok (.enter rN bn.toArray) w/\bn.length=bJ.length/\∀(i:Nat) (x:AV),bJ[i]?=some x->∃v,bn[i]?=some v/\aY β S w x v:=by
 have hf:=h.get f;obtain⟨fn,f1,f2,f3⟩:=iN;have dn:fn.body.isNone=false:=by cases hb:fn.body<;>simp_all
 have cL:∀(cap:Array Value),a.eval f=.func (.func rN) #[] cap->(execOp a.eval o).run P w=.ok (.enter rN (args.map a.eval++cap)) w:=by
  intro cap Cg;simp only[execOp,ho,resolve,Cg,Deferred.ofValue,invoke,callFunc,Sem.run_bind,Sem.run_pure,Result.andThen,run_program,f1,f3,dn,Bool.false_eq_true,if_false,Array.empty_append]
 have dx:∀(i:Nat) (x:AV),(args.toList.map st.get)[i]?=some x->∃v,(args.toList.map a.eval)[i]?=some v/\aY β S w x v:=by
  intro i x hi;rw[List.getElem?_map]at hi ⊢;obtain⟨y,h1,rfl⟩:=Option.map_eq_some_iff.1 hi;exact⟨a.eval y,by rw[h1];rfl,h.get y⟩
 unfold rX at hc;split at hc
 ·rename_i g first cap hg
  split at hc
  ·rename_i dG
   cases hc;rw[hg]at hf;obtain⟨hf,_⟩:=hf.scalar;have h1:first=#[]:=Array.eq_empty_of_size_eq_zero dG.1
   have h2:cap=#[]:=Array.eq_empty_of_size_eq_zero dG.2;subst h1 h2;refine⟨args.toList.map a.eval,?_,by simp,dx⟩;rw[cL _ hf];congr 2;apply Array.ext';simp
  ·cases hc
 ·rename_i g a8 hg
  split at hc
  rotate_left
  ·rename_i E6
   rw[<-qy]at E6;generalize hk:g-nC=k at hc;cases hc;rw[hg]at hf;cases hf with|c hf=>
   generalize Cg:a.eval f=fv at hf;cases hf with|dj vs h1 h2=>
   have W4:jB g vs=.func (.func rN) vs.toArray #[]:=by rw[xH E6,hk]
   clear hk;have CH:(execOp a.eval o).run P w=.ok (.enter rN (vs.toArray++args.map a.eval)) w:=by
    simp only[execOp,ho,resolve,Cg,W4,Deferred.ofValue,invoke,callFunc,Sem.run_bind,Sem.run_pure,Result.andThen,run_program,f1,f3,dn,Bool.false_eq_true,if_false,Array.append_empty]
   have AF:vs.toArray++args.map a.eval=(vs++args.toList.map a.eval).toArray:=by apply Array.ext';simp
   rw[AF]at CH;refine⟨vs++args.toList.map a.eval,CH,by simp[h1],fun i x hi=>?_⟩;rw[List.getElem?_append]at hi ⊢;simp only[List.length_map]at hi;rw[h1];split at hi
   ·rename_i bH
    rw[if_pos bH];rw[List.getElem?_map]at hi;obtain⟨p,q1,rfl⟩:=Option.map_eq_some_iff.1 hi;obtain⟨R,q2,q3⟩:=h2 _ p.1 p.2.1 p.2.2 q1;exact⟨_,q3,.c (.ptr R q2)⟩
   ·rename_i Ef
    rw[if_neg Ef];exact dx _ x hi
  rename_i E6;rw[<-qy]at E6;cases hc;rw[hg]at hf;cases hf with|c hf=>
  generalize Cg:a.eval f=fv at hf;cases hf with|dj vs h1 h2=>
  refine⟨args.toList.map a.eval++vs,?_,by simp[h1],fun i x hi=>?_⟩
  ·rw[cL _ (by rw[Cg,xG E6])]
   congr 2;apply Array.ext';simp
  ·rw[List.getElem?_append]at hi ⊢
   simp only[List.length_map]at hi ⊢;split at hi
   ·rename_i bH
    rw[if_pos bH];exact dx i x hi
   ·rename_i Ef
    rw[if_neg Ef];rw[List.getElem?_map]at hi;obtain⟨p,q1,rfl⟩:=Option.map_eq_some_iff.1 hi;obtain⟨R,q2,q3⟩:=h2 _ p.1 p.2.1 p.2.2 q1;exact⟨_,q3,.c (.ptr R q2)⟩
 ·cases hc
theorem vr (hC:bt P C) (h:Sat K β S st a w) (jq:∀s,slot<=s->s<slot+slotsOf C o.op->s<st.heap.length/\β s=none) {k:bZ->Prop} (hk:eU P C ops slot o st k)
  {next:Act->World->Prop} {Q:Exit->Act->World->Prop} (hn:∀e w' v β' S',k e->Sat K β' S' (st.app o e) (a.put o.dst v) w'->(∀b,b<slot∨slot+slotsOf C o.op<=b->β' b=β b)->next (a.put o.dst v) w') :
  if Region.wanted o (yielded ops.toArray a.tmps) then o.wp P a w next Q∨(o.asks P a w/\LetsOut Q) else next (a.put o.dst undef) w:=by
 unfold eU at hk;split at hk
 ·exact hk.elim
 ·rename_i hw
  rw[xZ h hw];simp only[Bool.false_eq_true,if_false];exact hn qx w undef β S hk (kn h (.oD [] (fun _=>undef) rfl (by simp) (by simp))) fun _ _=>rfl
 ·rename_i hw
  rw[xZ h hw];simp only[if_true];left;unfold Oper.wp;split at hk
  ·rename_i f args argTypes dX
   split at hk
   ·exact hk.elim
   ·rename_i rN bJ hc
    split at hk
    ·rename_i n0 Vo LV
     split at hk
     ·exact hk.elim
     ·rename_i ids s hp
      obtain⟨s',ch,hk⟩:=hk;split at hk
      ·rename_i e he
       simp only[oT]at hp;split at hp
       ·rename_i hvo
        cases hp;obtain⟨bn,h1,h2,h3⟩:=vq h hc dX ch.1;rw[h1];refine(JX h h2 h3 hvo ch (fun h0=>by have:=(jq (slot+(slotsOf C o.op-1)) (by omega) (by omega)).1;omega) (fun b e1 e2=>(jq b e1 e2).2) he).mono ?_
        rintro en w' ⟨v,β',S',rfl,q1,q2,q3⟩
        exact hn e w' v β' S' hk (kn q2 q3) q1
       ·cases hp
      ·exact hk.elim
    ·rename_i J2
     split at hk
     ·exact hk.elim
     ·rename_i as marks dE hp
      obtain⟨res,ch,hk⟩:=hk;split at hk
      ·rename_i e he
       obtain⟨bn,h1,h2,h3⟩:=vq h hc dX ch.1;rw[h1];have h2s:slotsOf C o.op=2:=by
        rw[dX];cases f with
        | func f'=>
         have UX:f'=rN:=by
          simp only[St.get,rX]at hc;split at hc
          ·cases hc;rfl
          ·cases hc
         subst UX;show(match C.md f' with|.sh n::_=>n|_=>2)=2
         split
         ·rename_i LV;exact absurd LV (J2 _ _)
         ·rfl
        | _=>rfl
       rw[h2s]at jq hn;refine(EZ h h2 h3 hp ch (by have:=jq (slot+1) (by omega) (by omega);omega) (fun b e1 e2=>(jq b e1 e2).2) he).mono ?_
       rintro en w' ⟨v,β',S',rfl,q1,q2,q3⟩
       exact hn e w' v β' S' hk (kn q2 q3) q1
      ·exact hk.elim
  ·rename_i op Ra
   split at hk
   ·rename_i e he
    by_cases h0:slotsOf C o.op=0
    ·obtain⟨w',β',S',v,nx,q1,q2,q3,q4,q5⟩:=J1 hC h h0 he
     rw[q1];rcases q2 with rfl|⟨rfl,rfl⟩
     ·exact hn e w' v β' S' hk (kn q4 q5) fun b _=>q3 b
     ·exact hn e w' undef β' S' hk (kn q4 q5) fun b _=>q3 b
    ·have h1:slotsOf C o.op=1:=by
      cases dX:o.op with
      | call c=>
       obtain⟨callee,args,argTypes⟩:=c;cases callee with
       | value f=>exact absurd dX (by intro hh;exact Ra _ _ _ hh)
       | builtin b=>rw[dX]at h0;cases b<;>first|rfl|exact absurd rfl h0
       | invoke r m=>rw[dX]at h0;exact absurd rfl h0
      | _=>rw[dX]at h0;first|rfl|exact absurd rfl h0
     rw[h1]at jq hn;obtain⟨hs,hf⟩:=jq slot (Nat.le_refl _) (by omega);obtain⟨w',β',S',v,nx,q1,q2,q3,q4,q5⟩:=Gu hC h (fun _=>⟨hs,hf⟩) he;rw[q1];rcases q2 with rfl|⟨rfl,rfl⟩
     ·exact hn e w' v β' S' hk (kn q4 q5) fun b hb=>q3 b (by omega)
     ·exact hn e w' undef β' S' hk (kn q4 q5) fun b hb=>q3 b (by omega)
   ·exact hk.elim
end
def bB (C:dP):List Oper->Nat
 | []=>0
 | o::os=>slotsOf C o.op+bB C os
def vw (P:Program) (C:dP) (ops:List Oper):List Oper->Nat->St->List bZ->(List bZ->St->Prop)->Prop
 | [],_,st,tr,Q=>Q tr st
 | o::os,slot,st,tr,Q=>eU P C ops slot o st fun e=>vw P C ops os (slot+slotsOf C o.op) (st.app o e) (tr ++ [e]) Q
def St.ext (st:St) (n:Nat):St:=⟨st.tmps,st.heap++List.replicate n none⟩
inductive bC where
 | normal
 | exit (id:Nat)
 | ret
 deriving DecidableEq
def toA:Exit->Option bC
 | .normal=>some .normal
 | .exit id=>some (.exit id)
 | .ret=>some .ret
 | _=>none
def J3 (K:Ctx) (Q:bC->St->Prop):Exit->Act->World->Prop:=fun e a w=>∃x st,toA e=some x/\Q x st/\∃β S,Sat K β S st a w
def dy (P:Program) (n0:Nat) (c:Code) (st:St) (Q:bC->St->Prop):Prop:=
 ∀(K:Ctx),(∀i R,K.β0 i=some R->i<n0)->∀(β:Nat->Option bS) (S:Place) (a:Act) (w:World),Sat K β S st a w->c.wp P (J3 K Q) a w
section
variable {P:Program} {C:dP} {K:Ctx} {β:Nat->Option bS} {S:Place} {st:St} {a:Act} {w:World} {slot:Nat} {e:bZ} {o:Oper} {ops:List Oper} {n0:Nat} {Q Q':bC->St->Prop}
theorem vx (h:bM) (n b:Nat):look (h++List.replicate n none) b=look h b:=by
 unfold look;rw[List.getElem?_append];split
 ·rfl
 ·rename_i Ef
  rw[List.getElem?_eq_none (l:=h) (by omega),List.getElem?_replicate];split<;>rfl
theorem Sat.ext (h:Sat K β S st a w) (n:Nat):Sat K β S (st.ext n) a w:=
 ⟨h.len,h.defers,h.tmps,fun b R hb=>by have:=h.top b R hb;simp[St.ext];omega,fun b aR hb=>h.aR b aR (by rw[<-vx st.heap n b];exact hb),
  fun b b' aR cR R R' cY hb bK=>h.kX b b' aR cR R R' cY (by rw[<-vx st.heap n b];exact hb) (by rw[<-vx st.heap n b'];exact bK),h.rH,h.sin,h.sub,h.jh,h.arg⟩
theorem vy (st:St) (o:Oper) (e:bZ):(st.app o e).heap.length=st.heap.length:=JC _ _
theorem vz (hC:bt P C):∀(os pre:List Oper) (slot:Nat) (st:St) (tr:List bZ) (β:Nat->Option bS) (S:Place) (a:Act) (w:World),ops=pre++os->Sat K β S st a w ->
  (∀s,slot<=s->s<slot+bB C os->s<st.heap.length/\β s=none)->vw P C ops os slot st tr (fun _ rY=>Q .normal rY) ->
  wpOps P ops.toArray (J3 K Q) (List.range' pre.length os.length) a w
 | [],pre,slot,st,tr,β,S,a,w,_,h,_,hk=>by
  simp only[List.length_nil,List.range'_zero,wpOps];exact⟨.normal,st,rfl,hk,β,S,h⟩
 | o::os,pre,slot,st,tr,β,S,a,w,S4,h,jq,hk=>by
  simp only[List.length_cons,List.range'_succ,wpOps];have iF:ops.toArray[pre.length]?=some o:=by simp[S4]
  rw[iF];simp only[bB]at jq;refine vr hC h (fun s h1 h2=>jq s h1 (by omega)) hk fun e w' v β' S' xf rM W5=>?_
  have:=vz hC os (pre ++ [o]) (slot+slotsOf C o.op) (st.app o e) (tr ++ [e]) β' S' (a.put o.dst v) w' (by rw[S4];simp) rM (fun s h1 h2=>by
   obtain⟨e1,e2⟩:=jq s (by omega) (by omega);exact⟨by rw[vy];exact e1,by rw[W5 s (by omega)];exact e2⟩) xf
  rwa[List.length_append]at this
theorem dy.region (hC:bt P C) {id:Nat} {ops:Array Oper} (hk:vw P C ops.toList ops.toList st.heap.length (st.ext (bB C ops.toList)) [] fun _ rY=>Q .normal rY):dy P n0 (.region id ops false) st Q:=by
 intro K hn β S a w h;refine wp_region ?_;have:=vz (K:=K) (Q:=Q) hC ops.toList [] st.heap.length (st.ext (bB C ops.toList)) [] β S a w rfl (h.ext _) (fun s h1 h2=>by
  refine⟨by simp[St.ext];omega,?_⟩;cases hx:β s with
  | none=>rfl
  | some R=>have:=h.top s R hx;omega) hk
 rw[List.range_eq_range'];simpa using this
theorem dy.mono {c:Code} (h:dy P n0 c st Q) (hq:∀e s,Q e s->Q' e s):dy P n0 c st Q':=fun K hn β S a w hs=>
 wp_mono (h K hn β S a w hs) fun e a' w' ⟨x,s,h1,h2,h3⟩=>⟨x,s,h1,hq _ _ h2,h3⟩
theorem dy.skip (h:Q .normal st):dy P n0 .skip st Q:=fun K hn β S a w hs=>wp_skip ⟨.normal,st,rfl,h,β,S,hs⟩
theorem dy.exit {id:Nat} (h:Q (.exit id) st):dy P n0 (.exit id) st Q:=fun K hn β S a w hs=>wp_exit ⟨.exit id,st,rfl,h,β,S,hs⟩
theorem dy.ret (h:Q .ret st):dy P n0 .ret st Q:=fun K hn β S a w hs=>wp_ret ⟨.ret,st,rfl,h,β,S,hs⟩
def S5 (P:Program) (n0:Nat) (y:Code) (Q:bC->St->Prop):bC->St->Prop
 | .normal,s=>dy P n0 y s Q
 | e,s=>Q e s
theorem dy.seq {x y:Code} (h:dy P n0 x st (S5 P n0 y Q)):dy P n0 (.seq x y) st Q:=fun K hn β S a w hs=>
 wp_seq (wp_mono (h K hn β S a w hs) fun e a' w' ⟨x,s,h1,h2,β',S',h3⟩=>by
  cases e with
  | normal=>cases h1;exact h2 K hn β' S' a' w' h3
  | exit id=>cases h1;exact⟨_,s,rfl,h2,β',S',h3⟩
  | ret=>cases h1;exact⟨_,s,rfl,h2,β',S',h3⟩
  | _=>cases h1)
theorem dy.cond {c:Operand} {x y:Code} {b:Bool} (hc:(st.get c).bool?=some b) (h:dy P n0 (if b then x else y) st Q):dy P n0 (.cond c x y) st Q:=fun K hn β S a w hs=>
 wp_cond ((hs.get c).bool hc) (h K hn β S a w hs)
def AG (id:Nat) (Q:bC->St->Prop):bC->St->Prop
 | .exit Cj,s=>if Cj=id then Q .normal s else Q (.exit Cj) s
 | e,s=>Q e s
theorem dy.block {id:Nat} {c:Code} (h:dy P n0 c st (AG id Q)):dy P n0 (.block id c) st Q:=fun K hn β S a w hs=>
 wp_block (wp_mono (h K hn β S a w hs) fun e a' w' ⟨x,s,h1,h2,h3⟩=>by
  cases e with
  | normal=>cases h1;exact⟨_,s,rfl,h2,h3⟩
  | exit Cj=>
   cases h1;unfold Exit.inBlock;unfold AG at h2;simp only at h2 ⊢;split
   ·rename_i Ht;rw[if_pos Ht]at h2;exact⟨_,s,rfl,h2,h3⟩
   ·rename_i Ht;rw[if_neg Ht]at h2;exact⟨_,s,rfl,h2,h3⟩
  | ret=>cases h1;exact⟨_,s,rfl,h2,h3⟩
  | _=>cases h1)
def NY (I:Nat->St->Prop) (n:Nat) (Q:bC->St->Prop):bC->St->Prop
 | .normal,s=>∃m,m<n/\I m s
 | e,s=>Q e s
theorem dy.loop {c:Code} (I:Nat->St->Prop) (round:∀n s,I n s->dy P n0 c s (NY I n Q)) {n:Nat} (h0:I n st):dy P n0 (.loop c) st Q:=by
 intro K hn β S a w hs b k cs;have key:∀n s β S a w,I n s->Sat K β S s a w ->
   ∃e a' w',J3 K Q e a' w'/\Arrives P (lone (b.at a (.code c :: .inLoop c::k)) cs w) b k cs e a' w':=by
  intro n
  induction n using Nat.strongRecOn with
  | _ n ih=>
   intro s β S a w hI hs;obtain⟨e,a₁,w₁,⟨x,s1,h1,h2,β1,S1,h3⟩,AF⟩:=round n s hI K hn β S a w hs b (.inLoop c::k) cs;cases e with
   | normal=>
    cases h1;obtain⟨m,hm,hI1⟩:=h2;obtain⟨e₂,a₂,w₂,hq₂,S6⟩:=ih m hm s1 β1 S1 a₁ w₁ hI1 h3;exact⟨e₂,a₂,w₂,hq₂,.of_steps (Steps.trans AF (.one step_inLoop)) S6⟩
   | exit id=>cases h1;exact⟨_,a₁,w₁,⟨_,s1,rfl,h2,β1,S1,h3⟩,.pass (x:=.inLoop c) rfl (fun _ _=>.inl (by simp)) AF⟩
   | ret=>cases h1;exact⟨_,a₁,w₁,⟨_,s1,rfl,h2,β1,S1,h3⟩,.pass (x:=.inLoop c) rfl (fun _ _=>.inl (by simp)) AF⟩
   | _=>cases h1
 obtain⟨e,a',w',hq,AF⟩:=key n st β S a w h0 hs;exact⟨e,a',w',hq,.of_steps (.one step_loop) AF⟩
structure St.Le (s s':St):Prop where
 len:s'.tmps.length=s.tmps.length
 hlen:s'.heap.length<=s.heap.length
 tmps:∀(i:Nat) (x:AV),s'.tmps[i]?=some x->x=.aj∨s.tmps[i]?=some x
 heap:∀b aR,look s'.heap b=some aR->look s.heap b=some aR
def Cell.a9 (n:Nat):Cell->Bool
 | .t _=>true
 | .ptr b _ _=>decide (b<n)
 | .tp _ _=>true
 | .sl b _ _ _=>decide (b<n)
 | .mp b=>decide (b<n)
 | .dj _ a8=>a8.all fun p=>decide (p.1<n)
mutual
def AV.a9 (n:Nat):AV->Bool
 | .c x=>x.a9 n
 | .agg l=>l.all (·.a9 n)
 | .oD l=>uk n l
 | .aj=>true
def uk (n:Nat):List AV->Bool
 | []=>true
 | x::l=>x.a9 n&&uk n l
end
def aU.a9 (n:Nat):aU->Bool
 | .var cells=>cells.all (·.a9 n)
 | _=>true
def St.a9 (s:St):Bool:=s.tmps.all (·.a9 s.heap.length)&&s.heap.all fun o=>match o with|some b=>b.a9 s.heap.length|none=>true
theorem dd.cut {n:Nat} {c:Cell} {v:Value} (h:dd β S w c v) (hb:c.a9 n=true):dd (fun b=>if b<n then β b else none) S w c v:=by
 cases h with
 | t h=>exact .t h
 | ptr R h=>exact .ptr R (by simp only[Cell.a9,decide_eq_true_eq]at hb;rw[if_pos hb];exact h)
 | tp cb co val h=>exact .tp cb co val h
 | sl R base cap h h1 h2 h3 h4 h5=>exact .sl R base cap (by simp only[Cell.a9,decide_eq_true_eq]at hb;rw[if_pos hb];exact h) h1 h2 h3 h4 h5
 | mp R h=>exact .mp R (by simp only[Cell.a9,decide_eq_true_eq]at hb;rw[if_pos hb];exact h)
 | dj vs h1 h2=>
  refine .dj vs h1 fun i b r c hi=>?_
  obtain⟨R,e1,e2⟩:=h2 i b r c hi;have:=List.all_eq_true.1 hb _ (List.mem_of_getElem? hi);exact⟨R,by rw[if_pos (by simpa using this)];exact e1,e2⟩
theorem tA {n:Nat}:∀ {l:List AV},uk n l=true->∀(i:Nat) (x:AV),l[i]?=some x->x.a9 n=true
 | [],_,i,x,hi=>by simp at hi
 | y::l,h,i,x,hi=>by
  simp only[uk,Bool.and_eq_true]at h;cases i with
  | zero=>simp at hi;subst hi;exact h.1
  | succ i=>exact tA h.2 i x (by simpa using hi)
theorem aY.cut {n:Nat} {x:AV} {v:Value} (h:aY β S w x v):x.a9 n=true->aY (fun b=>if b<n then β b else none) S w x v:=by
 induction h with
 | c h=>intro hb;exact .c (h.cut (by simpa[AV.a9]using hb))
 | agg vs h1 h2=>
  intro hb;refine .agg vs h1 fun i c hi=>?_
  obtain⟨v,e1,e2⟩:=h2 i c hi;simp only[AV.a9]at hb;exact⟨v,e1,e2.cut (List.all_eq_true.1 hb c (List.mem_of_getElem? hi))⟩
 | oD vs val h1 h2 _ ih=>
  intro hb;simp only[AV.a9]at hb;exact .oD vs val h1 h2 fun i x hi=>ih i x hi (tA hb i x hi)
 | aj v=>intro _;exact .aj v
theorem Sat.weaken {s s':St} (h:Sat K β S s a w) (hl:s.Le s') (hb:s'.a9=true) (hn:∀i R,K.β0 i=some R->i<s'.heap.length):Sat K (fun b=>if b<s'.heap.length then β b else none) S s' a w:=by
 simp only[St.a9,Bool.and_eq_true]at hb;refine⟨by rw[hl.len];exact h.len,h.defers,fun t x ht=>?_,fun b R hR=>?_,fun b aR gz=>?_,fun b b' aR cR R R' cY h1 h2 hR gD=>?_,h.rH,h.sin,h.sub,h.jh,fun i R hi=>by rw[if_pos (hn i R hi)];exact h.arg i R hi⟩
 ·rcases hl.tmps t x ht with rfl|hx
  ·exact .aj _
  ·exact(h.tmps t x hx).cut (List.all_eq_true.1 hb.1 x (List.mem_of_getElem? ht))
 ·split at hR
  ·assumption
  ·cases hR
 ·obtain⟨R,e1,e2,e3,e4⟩:=h.aR b aR (hl.heap b aR gz)
  have bH:=rQ gz;refine⟨R,by rw[if_pos bH];exact e1,?_,e3,e4⟩;cases aR with
  | var cells=>
   refine⟨e2.1,fun j c hj=>?_⟩;obtain⟨v,f1,f2⟩:=e2.2 j c hj;have hm:some (aU.var cells)∈s'.heap:=by
    unfold look at gz;cases hx:s'.heap[b]? with
    | none=>rw[hx]at gz;cases gz
    | some y=>rw[hx]at gz;simp at gz;subst gz;exact List.mem_of_getElem? hx
   have:=List.all_eq_true.1 hb.2 _ hm;simp only[aU.a9]at this;exact⟨v,f1,f2.cut (List.all_eq_true.1 this c (List.mem_of_getElem? hj))⟩
  | rows sz rows g fz=>exact e2
  | map cF=>exact e2
  | fR sz rows=>exact e2
 ·have l1:=rQ h1
  have l2:=rQ h2;rw[if_pos l1]at hR;rw[if_pos l2]at gD;exact h.kX b b' aR cR R R' cY (hl.heap _ _ h1) (hl.heap _ _ h2) hR gD
theorem dy.weaken {c:Code} {s s':St} (hl:s.Le s') (hb:s'.a9=true) (hk:n0<=s'.heap.length) (h:dy P n0 c s' Q):dy P n0 c s Q:=fun K hn β S a w hs=>h K hn _ S a w (hs.weaken hl hb fun i R hi=>Nat.lt_of_lt_of_le (hn i R hi) hk)
end
def dm:Nat->List Arg->List AV
 | _,[]=>[]
 | i,.val x::as=>x.av::dm (i+1) as
 | i,.eP _ rows::as=>.c (.sl i 0 rows.length false)::dm (i+1) as
 | i,.own _ rows::as=>.c (.sl i 0 rows.length false)::dm (i+1) as
 | i,.ref _::as=>.c (.ptr i 0 0)::dm (i+1) as
 | i,.dj f a8::as=>.c (.dj f a8)::dm (i+1) as
 | _,.gh _::_=>[]
def fm (args:List Arg) (ntmps:Nat):St:=⟨dm 0 args++List.replicate (ntmps-jS args) .aj,args.map Arg.aR⟩
def fF (C:dP) (st:St):ResultVar->Option AV
 | .tmp t=>some (st.tmps.getD t .aj)
 | .cell a t=>match C.ty t,st.tmps.getD a .aj with
  | some ti,.c (.ptr b 0 c)=>match look st.heap b with
   | some (.var cells)=>da ti cells c
   | _=>none
  | _,_=>none
def Arg.rc:Arg->Option RC
 | .val x=>some (.val x)
 | .own sz rows=>some (.own sz rows)
 | _=>none
def od (h:Hp) (i:Nat):Arg->Option (Option aU)
 | .eP sz rows=>match h i with
  | some (.rows ke r false false)=>if ke=sz/\r.length=rows.length then some (some (.rows sz r false false)) else none
  | _=>none
 | .ref cells=>match h i with
  | some (.var cs)=>match bL h cs with
   | some (_,[])=>if cs.length=cells.length then some (some (.var cs)) else none
   | _=>none
  | _=>none
 | .gh cells=>match h i with
  | some (.var cs)=>match bL h cs with
   | some (_,[])=>if cs.length=cells.length then some (some (.var cs)) else none
   | _=>none
  | _=>none
 | _=>some none
def oV (h:Hp):Nat->List Arg->Option (List (Option aU))
 | _,[]=>some []
 | i,a::as=>match od h i a,oV h (i+1) as with
  | some o,some os=>some (o::os)
  | _,_=>none
def Arg.Hv:Arg->Bool
 | .eP _ _=>true
 | .ref _=>true
 | .gh _=>true
 | _=>false
def qz (heap:bM) (bJ:List AV) (args:List Arg) (om:List Mode):Option lJ:=
 match cD (look heap) om bJ with
 | none=>none
 | some (as,marks,dE)=>
  let is:=dE.filterMap bI.id
  if decide is.Nodup&&is.all (fun i=>!(ids marks).contains i)&&is.all (fun i=>match args[i]? with|some a=>!a.Hv|none=>true) then
   match as.mapM Arg.rc,oV (look (dZ heap marks)) 0 args with
   | some Hw,some outs=>some ⟨Hw,outs⟩
   | _,_=>none
  else none
def finish (C:dP) (st:St) (args:List Arg) (I8:List ResultVar) (om:List Mode):Option lJ:=
 match I8.mapM (fF C st) with
 | none=>none
 | some bJ=>qz st.heap bJ args om
section
variable {P:Program} {C:dP} {K:Ctx} {β:Nat->Option bS} {S:Place} {st:St} {a:Act} {w:World} {f:FuncId}
def W6 (i:Nat):Arg->AV
 | .val x=>x.av
 | .eP _ rows=>.c (.sl i 0 rows.length false)
 | .own _ rows=>.c (.sl i 0 rows.length false)
 | .ref _=>.c (.ptr i 0 0)
 | .dj f a8=>.c (.dj f a8)
 | .gh _=>.aj
theorem gH:∀(args:List Arg) (i0 i:Nat) (x:AV),(dm i0 args)[i]?=some x->i<jS args/\∃y,args[i]?=some y/\(∀ts,y ≠ .gh ts)/\x=W6 (i0+i) y
 | [],_,_,_,h=>by simp[dm]at h
 | .gh ts::as,i0,i,x,h=>by simp[dm]at h
 | .val y::as,i0,0,x,h=>by simp[dm]at h;exact⟨by simp[jS],_,rfl,by simp,h.symm⟩
 | .eP s r::as,i0,0,x,h=>by simp[dm]at h;exact⟨by simp[jS],_,rfl,by simp,h.symm⟩
 | .own s r::as,i0,0,x,h=>by simp[dm]at h;exact⟨by simp[jS],_,rfl,by simp,h.symm⟩
 | .ref r::as,i0,0,x,h=>by simp[dm]at h;exact⟨by simp[jS],_,rfl,by simp,h.symm⟩
 | .dj f r::as,i0,0,x,h=>by simp[dm]at h;exact⟨by simp[jS],_,rfl,by simp,h.symm⟩
 | .val y::as,i0,i+1,x,h=>by
  obtain⟨h1,z,h2,h3,h4⟩:=gH as (i0+1) i x (by simpa[dm]using h);exact⟨by simp[jS];omega,z,by simpa using h2,h3,by rw[h4,show i0+1+i=i0+(i+1) by omega]⟩
 | .eP s r::as,i0,i+1,x,h=>by
  obtain⟨h1,z,h2,h3,h4⟩:=gH as (i0+1) i x (by simpa[dm]using h);exact⟨by simp[jS];omega,z,by simpa using h2,h3,by rw[h4,show i0+1+i=i0+(i+1) by omega]⟩
 | .own s r::as,i0,i+1,x,h=>by
  obtain⟨h1,z,h2,h3,h4⟩:=gH as (i0+1) i x (by simpa[dm]using h);exact⟨by simp[jS];omega,z,by simpa using h2,h3,by rw[h4,show i0+1+i=i0+(i+1) by omega]⟩
 | .ref r::as,i0,i+1,x,h=>by
  obtain⟨h1,z,h2,h3,h4⟩:=gH as (i0+1) i x (by simpa[dm]using h);exact⟨by simp[jS];omega,z,by simpa using h2,h3,by rw[h4,show i0+1+i=i0+(i+1) by omega]⟩
 | .dj f r::as,i0,i+1,x,h=>by
  obtain⟨h1,z,h2,h3,h4⟩:=gH as (i0+1) i x (by simpa[dm]using h);exact⟨by simp[jS];omega,z,by simpa using h2,h3,by rw[h4,show i0+1+i=i0+(i+1) by omega]⟩
theorem oe:∀(args:List Arg) (i0:Nat),(dm i0 args).length=jS args
 | [],_=>rfl
 | x::as,i0=>by cases x<;>simp[dm,jS,oe as]
theorem J4:∀(args:List Arg),jS args<=args.length
 | []=>Nat.le_refl _
 | x::as=>by have:=J4 as;cases x<;>simp[jS]<;>omega
theorem J5 (args:List Arg) (b:Nat):look (args.map Arg.aR) b=(args[b]?).bind Arg.aR:=by
 unfold look;rw[List.getElem?_map];cases args[b]? <;> rfl
theorem x8 {args:List Arg} {bn:List Value} {Rs:Nat->bS} (hp:ng args S w bn Rs) (n:Nat) :
  Sat ⟨w,mg args Rs,S,βA args Rs⟩ (βA args Rs) S (fm args n)
   { tmps:=(bn.take (jS args)).toArray++Array.replicate (n-(bn.take (jS args)).length) undef,defers:=[] } w:=by
 have Rc:=J4 args;have JL:(bn.take (jS args)).length=jS args:=by rw[List.length_take,hp.len];omega
 have oQ:∀b aR,look (args.map Arg.aR) b=some aR->∃x,args[b]?=some x/\x.aR=some aR:=by
  intro b aR hb;rw[J5]at hb;obtain⟨x,h1,h2⟩:=Option.bind_eq_some_iff.1 hb;exact⟨x,h1,h2⟩
 have hβ:∀b x aR,args[b]?=some x->x.aR=some aR->βA args Rs b=some (Rs b):=by
  intro b x aR h1 h2;unfold βA;rw[if_pos];rw[h1];simp[h2]
 refine⟨by simp[fm,oe,JL],rfl,fun t x ht=>?_,fun b R hb=>?_,fun b aR hb=>?_,fun b b' aR cR R R' cY hb bK hR gD c o hx hy=>?_,hp.rH,fun c o hs=>.inl hs,fun c o hs=>hs,eK.refl _ _,fun i R hi=>hi⟩
 ·simp only[fm]at ht
  rw[List.getElem?_append]at ht;split at ht
  ·rename_i bH
   obtain⟨h0,y,h1,hng,h2⟩:=gH _ _ _ _ ht;obtain⟨v,h3,h4⟩:=hp.ok t y h1;have hv:((bn.take (jS args)).toArray++Array.replicate (n-(bn.take (jS args)).length) undef).getD t undef=v:=by
    rw[Array.getD_eq_getD_getElem?,Array.getElem?_append,if_pos (by rw[List.size_toArray,JL];exact h0)];simp[h3,h0]
   simp only;rw[hv];cases y with
   | val y=>subst h2;exact aY.mono h4 (fun _ _ hx=>by cases hx) (fun _ _ hx=>hx) fun _ _ _=>rfl
   | eP sz rows=>
    subst h2;obtain⟨⟨base,q1,q2⟩,_,_,q3,_⟩:=h4;rw[q1];exact .c (.sl (Rs t) base _ (by rw[Nat.zero_add];exact hβ t _ _ h1 rfl) (fun hh=>by cases hh) (fun _=>by omega) q3 (by omega) (fun h0=>by simpa using q2 h0))
   | own sz rows=>
    subst h2;obtain⟨⟨base,q1,q2⟩,_,_,q3,_⟩:=h4;rw[q1];exact .c (.sl (Rs t) base _ (by rw[Nat.zero_add];exact hβ t _ _ h1 rfl) (fun hh=>by cases hh) (fun _=>by omega) q3 (by omega) (fun h0=>by simpa using q2 h0))
   | ref cells=>
    subst h2;rw[h4.1];have:=dd.ptr (S:=S) (w:=w) (β:=βA args Rs) (b:=0+t) (r:=0) (c:=0) (Rs t) (by rw[Nat.zero_add];exact hβ t _ _ h1 rfl);exact .c (by simpa using this)
   | dj f a8=>subst h2;exact .c (hp.dj t f a8 v h1 h3)
   | gh ts=>exact absurd rfl (hng ts)
  ·rw[List.getElem?_replicate]at ht
   split at ht
   ·cases ht;exact .aj _
   ·cases ht
 ·unfold βA at hb
  split at hb
  ·rename_i hs
   obtain⟨y,hy⟩:=Option.isSome_iff_exists.1 hs;obtain⟨x,h1,_⟩:=Option.bind_eq_some_iff.1 hy;simpa[fm]using ta h1
  ·cases hb
 ·obtain⟨x,h1,h2⟩:=oQ b aR hb
  obtain⟨v,h3,h4⟩:=hp.ok b x h1;obtain⟨h5,h6⟩:=hp.ext b x aR h1 h2;refine⟨Rs b,hβ b x aR h1 h2,?_,fun c o hx=>⟨h5 c o hx,.inr ⟨b,x,aR,h1,h2,hx⟩⟩,h6⟩;cases x with
  | val=>cases h2
  | eP sz rows=>cases h2;exact h4.2
  | own sz rows=>cases h2;exact h4.2
  | ref cells=>cases h2;exact h4.2.uj
  | dj=>cases h2
  | gh cells=>cases h2;exact h4.2.uj
 ·obtain⟨x,h1,h2⟩:=oQ b aR hb
  obtain⟨x',NM,Gp⟩:=oQ b' cR bK;rw[hβ b x aR h1 h2]at hR;cases hR;rw[hβ b' x' cR NM Gp]at gD;cases gD;exact hp.kX b b' x x' aR cR cY h1 NM h2 Gp c o hx hy
def AH (tmps:Array Value):ResultVar->Sem Value
 | .tmp t=>pure (tmps.getD t undef)
 | .cell a t=>do loadVar t (<-asAddr (tmps.getD a undef))
theorem E7 (fn:Func) (tmps:Array Value):results fn tmps=(do
  let vs <-fn.results.mapM (AH tmps)
  pure (if h:vs.size=1 then vs[0] else .tuple vs)):=by
 unfold results;congr 2
theorem Hx (hC:bt P C) (h:Sat K β S st a w) {r:ResultVar} {x:AV} (hr:fF C st r=some x) :
  ∃v,(AH a.tmps r).run P w=.ok v w/\aY β S w x v:=by
 have iF:∀t,aY β S w (st.tmps.getD t .aj) (a.tmps.getD t undef):=fun t=>h.get (.tmp t)
 cases r with
 | tmp t=>
  simp only[fF]at hr;cases hr;exact⟨_,rfl,iF t⟩
 | cell p t=>
  simp only[fF]at hr;split at hr
  ·rename_i ti b c cB hp
   split at hr
   ·rename_i cells hb
    have hv:=iF p;rw[hp]at hv;cases hv with|c hv=>
    generalize Vj:a.tmps.getD p undef=pv at hv;cases hv with|ptr R hR=>
    obtain⟨R',e1,e2,_⟩:=h.aR b _ hb;rw[hR]at e1;cases e1;obtain⟨u,h3,h4⟩:=pW (P:=P) (iw (hC t ti cB)) hr e2.2;refine⟨u,?_,h4⟩;simp only[AH,Vj,asAddr,Sem.run_bind,Sem.run_pure,Result.andThen];rw[show R.co+0*R.af+c=R.co+c by omega,h3]
   ·cases hr
  ·cases hr
theorem jr (hC:bt P C) (h:Sat K β S st a w) {fn:Func} {bJ:List AV} (hr:fn.results.toList.mapM (fF C st)=some bJ) :
  ∃vs:List Value,(results fn a.tmps).run P w=.ok (if vs.length=1 then vs.getD 0 undef else .tuple vs.toArray) w/\vs.length=bJ.length/\∀(i:Nat) (x:AV),bJ[i]?=some x->∃v,vs[i]?=some v/\aY β S w x v:=by
 have gen:∀(l:List ResultVar) (bJ:List AV),l.mapM (fF C st)=some bJ->∃vs:List Value,(l.mapM (AH a.tmps)).run P w=.ok vs w/\vs.length=bJ.length/\∀(i:Nat) (x:AV),bJ[i]?=some x->∃v,vs[i]?=some v/\aY β S w x v:=by
  intro l
  induction l with
  | nil=>intro bJ hl;simp at hl;subst hl;exact⟨[],by simp,rfl,by simp⟩
  | cons r l ih=>
   intro bJ hl;rw[List.mapM_cons]at hl;cases h1:fF C st r with
   | none=>rw[h1]at hl;cases hl
   | some x=>
    cases h2:l.mapM (fF C st) with
    | none=>rw[h1,h2]at hl;cases hl
    | some xs=>
     rw[h1,h2]at hl;cases hl;obtain⟨v,e1,e2⟩:=Hx (P:=P) hC h h1;obtain⟨vs,f1,f2,f3⟩:=ih xs h2;refine⟨v::vs,?_,by simp[f2],fun i y hi=>?_⟩
     ·simp only[List.mapM_cons,Sem.run_bind,e1,Result.andThen,f1,Sem.run_pure]
     ·cases i with
      | zero=>simp at hi;subst hi;exact⟨v,rfl,e2⟩
      | succ i=>simpa using f3 i y (by simpa using hi)
 obtain⟨vs,f1,f2,f3⟩:=gen _ bJ hr;refine⟨vs,?_,f2,f3⟩;have AF:fn.results=fn.results.toList.toArray:=by simp
 rw[E7,AF,List.mapM_toArray];simp only[Sem.run_bind,Sem.run_map,f1,Result.andThen,Sem.run_pure];congr 1
 by_cases h1:vs.length=1
 ·obtain⟨v,rfl⟩:∃v,vs=[v]:=by
   match vs,h1 with
   | [v],_=>exact⟨v,rfl⟩
  simp
 ·simp[h1]
theorem Gx:∀ {as:List Arg} {Hw:List RC},as.mapM Arg.rc=some Hw->Hw.length=as.length/\∀(k:Nat) (r:RC),Hw[k]?=some r->∃x:Arg,as[k]?=some x/\x.rc=some r:=fun h=>mapM_some h
theorem vA {h:Hp}:∀ {args:List Arg} {i0:Nat} {outs:List (Option aU)},oV h i0 args=some outs->∀(i:Nat) (o:Option aU),outs[i]?=some o->∃x,args[i]?=some x/\od h (i0+i) x=some o
 | [],_,outs,ho,i,o,hi=>by simp[oV]at ho;subst ho;simp at hi
 | x::as,i0,outs,ho,i,o,hi=>by
  unfold oV at ho;split at ho
  ·rename_i o1 os h1 h2
   cases ho;cases i with
   | zero=>simp at hi;subst hi;exact⟨x,rfl,h1⟩
   | succ i=>
    obtain⟨y,e1,e2⟩:=vA h2 i o (by simpa using hi);exact⟨y,by simpa using e1,by rw[show i0+(i+1)=i0+1+i by omega];exact e2⟩
  ·cases ho
theorem Gy {args:List Arg} {Rs:Nat->bS} {r0:lJ} {S S1:Place} {w w':World} {β':Nat->Option bS} {a':Act} {tm:List AV} {heap:bM} {om:List Mode} {bJ:List AV} {vs:List Value} (hs:Sat ⟨w,mg args Rs,S,βA args Rs⟩ β' S1 ⟨tm,heap⟩ a' w')
  (r2:vs.length=bJ.length) (r3:∀(i:Nat) (x:AV),bJ[i]?=some x->∃v,vs[i]?=some v/\aY β' S1 w' x v) (gB:qz heap bJ args om=some r0):fh args r0 S w Rs (if vs.length=1 then vs.getD 0 undef else .tuple vs.toArray) w':=by
 unfold qz at gB;split at gB
 ·cases gB
 ·rename_i as marks dE S7
  simp only at gB;split at gB
  ·rename_i Al
   simp only[Bool.and_eq_true]at Al;obtain⟨⟨WR,Hu⟩,WS⟩:=Al;have nH:(dE.filterMap bI.id).Nodup:=by simpa using WR
   have Ci:∀i∈dE.filterMap bI.id,i ∉ ids marks:=fun i hi=>by
    have:=List.all_eq_true.1 Hu i hi;simpa using this
   have kZ:∀i∈dE.filterMap bI.id,∀y,args[i]?=some y->y.Hv=false:=fun i hi y hy=>by
    have:=List.all_eq_true.1 WS i hi;rw[hy]at this;simpa using this
   split at gB
   ·rename_i Hw outs S8 S9
    cases gB;obtain⟨S2,NR,h2,Hh,JD,uW,Rr,jT⟩:=kl (fun b aR hb=>by obtain⟨R,hR,_⟩:=hs.aR b aR hb;exact⟨R,hR⟩) om bJ vs heap S1 as marks dE hs (dT.refl _) r2 r3 S7;have iU:∀(i:Nat) (x:Arg),as[i]?=some x->∃b v,dE[i]?=some b/\vs[i]?=some v/\iS β' (dZ heap marks) S2 w' x b (Rr i) v:=by
     intro i x hi;obtain⟨b,v,e1,e2,e3⟩:=jT i x hi;exact⟨b,v,e1,e2,e3.heap fun bi hb=>I7 marks heap (Ci bi (List.mem_filterMap.2 ⟨b,List.mem_of_getElem? e1,hb⟩))⟩
    have Pq:∀(i:Nat) (f:FuncId) (a8:List (Nat×Nat×Nat)),as[i]? ≠ some (.dj f a8):=by
     intro i f a8 hi;have bH:=ta hi;obtain⟨xi,Pm⟩:=Gx S8;obtain⟨r,hr⟩:∃r,Hw[i]?=some r:=⟨_,List.getElem?_eq_getElem (by omega)⟩;obtain⟨x,e1,e2⟩:=Pm i r hr;rw[hi]at e1;cases e1;cases e2
    have Az:=oR h2 (by omega) nH iU fun i f a8 v hi _=>absurd hi (Pq i f a8)
    obtain⟨xi,Pm⟩:=Gx S8;have AI:∀(k sz:Nat) (rows:List (List Tree)),Hw[k]?=some (.own sz rows)->as[k]?=some (.own sz rows):=by
     intro k sz rows hk;obtain⟨x,e1,e2⟩:=Pm k _ hk;cases x with
     | own ke dh=>cases e2;exact e1
     | val=>cases e2
     | eP=>cases e2
     | ref=>cases e2
     | dj=>cases e2
     | gh=>cases e2
    have CT:fh args ⟨Hw,outs⟩ S w Rs (if vs.length=1 then vs.getD 0 undef else .tuple vs.toArray) w':=by
     refine⟨S2,Rr,vs,by simp;omega,rfl,h2.jh,h2.sub,fun c o rM=>?_,fun k r hk=>?_,fun k sz rows hk=>?_,fun k l sz ke rows dh cY hk W7=>?_,fun i aR hi=>?_⟩
     ·rcases h2.sin c o rM with h|h
      ·exact .inl h
      ·exact .inr ⟨h2.rH c o rM,h⟩
     ·obtain⟨x,e1,e2⟩:=Pm k r hk
      obtain⟨v,e3,e4⟩:=Az.ok k x e1;refine⟨v,e3,?_⟩;cases x with
      | val x=>cases e2;exact e4
      | own sz rows=>cases e2;exact e4
      | eP=>cases e2
      | ref=>cases e2
      | dj=>cases e2
      | gh=>cases e2
     ·have h1:=AI k sz rows hk
      obtain⟨b,v,_,_,e3⟩:=iU k _ h1;rcases(e3.tq h2).2 _ rfl with⟨bi,B,RB,g1,g2,g3,g4,g5⟩|⟨_,g⟩
      ·obtain⟨R',k1,_,k3,k4⟩:=h2.aR bi B g2
       rw[g3]at k1;cases k1;exact⟨fun c o hx=>k3 c o (g4 c o hx),fun c o hx=>k4 c o (g5 c o hx)⟩
      ·exact⟨fun c o hx=>absurd hx (g c o),fun c o hx=>absurd (aU.fb hx) (g c o)⟩
     ·exact Az.kX k l _ _ _ _ cY (AI k sz rows hk) (AI l ke dh W7) rfl rfl
     ·obtain⟨x,e1,e2⟩:=vA S9 i _ hi
      rw[Nat.zero_add]at e2;have Pr:∀b0,x.aR=some b0->β' i=some (Rs i):=fun b0 Cq=>h2.arg i (Rs i) (by
       simp only[Abs.βA];rw[if_pos];rw[e1];simp[Cq])
      have AJ:∀(k sz:Nat) (rows:List (List Tree)) (B:aU),x.Hv=true->look (dZ heap marks) i=some B->β' i=some (Rs i)->Hw[k]?=some (.own sz rows)->∀c o,B.ext (Rs i) c o->¬(aU.rows sz rows true false).ext (Rr k) c o:=by
       intro k sz rows B qn hB hR hk c o hx hy;obtain⟨b,v,f1,_,f3⟩:=iU k _ (AI k sz rows hk);rcases(f3.tq h2).2 _ rfl with⟨bi,B',RB,g1,g2,g3,g4,_⟩|⟨_,g⟩
       ·have cY:i≠bi:=by
         rintro rfl
         have:=kZ i (List.mem_filterMap.2 ⟨b,List.mem_of_getElem? f1,g1⟩) x e1;rw[qn]at this;cases this
        exact h2.kX i bi B B' (Rs i) RB cY hB g2 hR g3 c o hx (g4 c o hy)
       ·exact g c o hy
      cases x with
      | val=>simp[od]at e2
      | own=>simp[od]at e2
      | eP sz rows=>
       simp only[od]at e2;split at e2
       ·rename_i ke r hb
        split at e2
        ·rename_i hc
         obtain⟨rfl,xi⟩:=hc;cases e2;have hR:=Pr _ rfl;obtain⟨R',k1,k2,k3,k4⟩:=h2.aR i _ hb;rw[hR]at k1;cases k1;refine⟨_,_,e1,rfl,fun c o hx=>?_,k2,k4,fun k JT mj hk=>AJ k JT mj _ rfl hb hR hk⟩;rw[aU.ext,xi]at hx;exact hx
        ·cases e2
       ·cases e2
      | ref cells=>
       simp only[od]at e2;split at e2
       ·rename_i cs hb
        split at e2
        ·rename_i ts tg
         split at e2
         ·rename_i Es
          cases e2;have xS:=SN tg rfl;subst xS;have hR:=Pr _ rfl;obtain⟨R',k1,k2,k3,k4⟩:=h2.aR i _ hb;rw[hR]at k1;cases k1;refine⟨_,_,e1,rfl,fun c o hx=>?_,⟨k2.1,fun j c hj=>?_⟩,k4,fun k JT mj hk=>AJ k JT mj _ rfl hb hR hk⟩
          ·rw[aU.ext,Es]at hx;simpa[aU.ext]using hx
          ·obtain⟨v,q1,q2⟩:=k2.2 j c hj
           obtain⟨t,_,rfl⟩:=qb hj;refine⟨v,q1,?_⟩;cases q2 with|t q2=>exact .t q2
         ·cases e2
        ·cases e2
       ·cases e2
      | dj=>simp[od]at e2
      | gh cells=>
       simp only[od]at e2;split at e2
       ·rename_i cs hb
        split at e2
        ·rename_i ts tg
         split at e2
         ·rename_i Es
          cases e2;have xS:=SN tg rfl;subst xS;have hR:=Pr _ rfl;obtain⟨R',k1,k2,k3,k4⟩:=h2.aR i _ hb;rw[hR]at k1;cases k1;refine⟨_,_,e1,rfl,fun c o hx=>?_,⟨k2.1,fun j c hj=>?_⟩,k4,fun k JT mj hk=>AJ k JT mj _ rfl hb hR hk⟩
          ·rw[aU.ext,Es]at hx;simpa[aU.ext]using hx
          ·obtain⟨v,q1,q2⟩:=k2.2 j c hj
           obtain⟨t,_,rfl⟩:=qb hj;refine⟨v,q1,?_⟩;cases q2 with|t q2=>exact .t q2
         ·cases e2
        ·cases e2
       ·cases e2
    exact CT
   ·cases gB
  ·cases gB
theorem og (hC:bt P C) {fn:Func} {c:Code} {args:List Arg} {R:lJ->Prop} {om:List Mode} (iN:P.funcs[f]?=some fn) (dn:fn.body=some c)
  (cL:dy P args.length c (fm args fn.ntmps) fun e s=>(e=.normal∨e=.ret)/\∃r,R r/\finish C s args fn.results.toList om=some r)
  (S:Place) (w:World) (bn:List Value) (Rs:Nat->bS) (hp:ng args S w bn Rs):Calls P f (bn.take (jS args)).toArray w fun e w'=>∃v r,e=.returned v/\R r/\fh args r S w Rs v w':=by
 refine calls_of_wp iN dn ?_;have jQ:=x8 hp fn.ntmps;have dG:(bn.take (jS args)).toArray.size=(bn.take (jS args)).length:=by simp
 rw[dG];refine wp_mono (cL _ (fun i R hi=>?_) _ S _ w jQ) fun e a' w' ⟨x,s,hx,⟨Ps,r0,Mp,gB⟩,β',S1,hs⟩=>?_
 ·simp only[βA]at hi
  split at hi
  ·rename_i h1
   obtain⟨y,hy⟩:=Option.isSome_iff_exists.1 h1;obtain⟨z,h2,_⟩:=Option.bind_eq_some_iff.1 hy;exact ta h2
  ·cases hi
 unfold finish at gB;split at gB
 ·cases gB
 ·rename_i bJ E8
  obtain⟨vs,r1,r2,r3⟩:=jr (P:=P) hC hs E8;have CT:=Gy hs r2 r3 gB;have eQ:∃v,(results fn a'.tmps).run P w'=.ok v w'/\∃u r,Ending.returned v=.returned u/\R r/\fh args r S w Rs u w':=⟨_,r1,_,_,rfl,Mp,CT⟩;cases e with
  | normal=>exact⟨hs.defers,eQ⟩
  | ret=>exact⟨hs.defers,eQ⟩
  | exit id=>cases hx;rcases Ps with h|h<;>cases h
  | goto=>cases hx
  | panic=>cases hx
  | outgrown=>cases hx
theorem aA.qA (hC:bt P C) {fn:Func} {c:Code} {args:List Arg} {res:lJ} {om:List Mode} (iN:P.funcs[f]?=some fn) (ez:(fn.name == "runtime.NumGoroutine")=false) (dn:fn.body=some c)
  (cL:dy P args.length c (fm args fn.ntmps) fun e s=>(e=.normal∨e=.ret)/\finish C s args fn.results.toList om=some res):aA P f args res:=by
 refine⟨⟨fn,iN,by rw[dn];rfl,ez⟩,fun S w bn Rs hp=>(og hC (R:=(·=res)) (om:=om) iN dn (fun K hn β S a w hs=>wp_mono (cL K hn β S a w hs) fun e a' w' ⟨x,s,h1,h2,h3⟩=>⟨x,s,h1,⟨h2.1,res,rfl,h2.2⟩,h3⟩) S w bn Rs hp).mono ?_⟩
 rintro e w' ⟨v,r,h1,rfl,h2⟩
 exact⟨v,h1,h2⟩
end
theorem oW (a b:List (Nat×Option aU)):ids (a++b)=ids a++ids b:=by simp[ids]
theorem qC {h h':Hp} {c:Cell} {t:Tree} {m:List (Nat×Option aU)} (ht:toTree h c=some (t,m)) (hh:∀b∈ids m,h' b=h b):toTree h' c=some (t,m):=by
 cases c with
 | t x=>exact ht
 | sl b off len cp=>
  have hb:h' b=h b:=by
   apply hh;unfold toTree at ht;simp only at ht;split at ht
   ·split at ht
    ·cases ht;simp[ids]
    ·cases ht
   ·cases ht
  unfold toTree at ht ⊢;simp only at ht ⊢;rw[hb];exact ht
 | _=>simp[toTree]at ht
theorem Pt {h h':Hp}:∀ {cs:List Cell} {ts:List Tree} {m:List (Nat×Option aU)},bL h cs=some (ts,m)->(∀b∈ids m,h' b=h b)->bL h' cs=some (ts,m)
 | [],ts,m,ht,_=>ht
 | c::cs,ts,m,ht,hh=>by
  unfold bL at ht;split at ht
  ·rename_i t1 m1 h1
   split at ht
   ·rename_i ts2 m2 h2
    cases ht;rw[oW]at hh;have e1:=qC (h':=h') h1 fun b hb=>hh b (List.mem_append_left _ hb)
    have e2:=Pt (h':=h') h2 fun b hb=>hh b (List.mem_append_right _ hb)
    try simp only[bL,e1,e2]
   ·cases ht
  ·cases ht
theorem fW {h h':Hp} {x:AV} {r:List (List Tree)} {rd:List Nat} (hr:rowsOf h x=some (r,rd)) (hh:∀b∈rd,h' b=h b):rowsOf h' x=some (r,rd):=by
 unfold rowsOf at hr ⊢;split at hr
 ·exact hr
 ·rename_i b off len cp
  have hb:h' b=h b:=by
   apply hh;split at hr
   ·split at hr
    ·cases hr;simp
    ·cases hr
   ·split at hr
    ·cases hr;simp
    ·cases hr
   ·cases hr
  try simp only
  rw[hb];exact hr
 ·exact hr
 ·exact hr
 ·cases hr
theorem mm {h h':Hp} {size:Nat}:∀ {pa:List (Nat×AV)} {rows r:List (List Tree)} {m:List (Nat×Option aU)},eR h size rows pa=some (r,m)->(∀b∈ids m,h' b=h b)->eR h' size rows pa=some (r,m)
 | [],rows,r,m,hf,_=>hf
 | (i,v)::pa,rows,r,m,hf,hh=>by
  unfold eR at hf;split at hf
  ·rename_i x hx
   split at hf
   ·rename_i hc
    split at hf
    ·rename_i ts m1 h1
     split at hf
     ·rename_i r2 m2 h2
      cases hf;rw[oW]at hh;have e1:=Pt (h':=h') h1 fun b hb=>hh b (List.mem_append_left _ hb)
      have e2:=mm (h':=h') h2 fun b hb=>hh b (List.mem_append_right _ hb)
      try simp only[eR,hx,e1,e2]
      try rw[if_pos hc]
     ·cases hf
    ·cases hf
   ·cases hf
  ·cases hf
theorem AK {ti:TI} {slot:Nat} {h h':Hp} {s x:AV} {e:bZ} (he:jD ti slot h s x=some e) (hh:∀b∈e.rd,h' b=h b):jD ti slot h' s x=some e:=by
 unfold jD at he;split at he
 ·rename_i b off len b' Js Jt El
  split at he
  ·rename_i cs ns hb bK
   split at he
   ·rename_i hc
    cases he;have e1:h' b=h b:=hh b (by simp);have e2:h' b'=h b':=hh b' (by simp);simp only[jD,e1,e2,hb,bK];rw[if_pos hc]
   ·cases he
  ·cases he
 ·cases he
theorem mn {ti:TI} {slot:Nat} {h h':Hp} {s x:AV} {e:bZ} (he:bY ti slot h s x=some e) (hh:∀b∈e.rd,h' b=h b):bY ti slot h' s x=some e:=by
 unfold bY at he;split at he
 ·have h1:=AK he hh
  unfold bY;rw[tj h1];exact h1
 ·rename_i new nF hr
  split at he
  ·rename_i h0
   split at he
   ·rename_i hs
    cases he;have:=fW (h':=h') hr hh
    try simp only[bY,this]
    try rw[if_pos h0,if_pos hs]
   ·cases he
  ·rename_i h0
   split at he
   ·cases he
   ·rename_i lF
    split at he
    ·rename_i rows
     split at he
     ·rename_i hc
      cases he;have:=fW (h':=h') hr hh
      try simp only[bY,this]
      try rw[if_neg h0,if_neg lF,if_pos hc]
     ·cases he
    ·rename_i b off len cp
     split at he
     ·rename_i sz rows g fz hb
      split at he
      ·cases he
      ·rename_i hc
       have fin:∀W8,e.rd=b::W8->nF=W8->bY ti slot h' (.c (.sl b off len cp)) x=bY ti slot h (.c (.sl b off len cp)) x:=by
        rintro W8 e1 rfl
        have e2:=fW (h':=h') hr fun b hb=>hh b (by rw[e1];exact List.mem_cons_of_mem _ hb)
        have e3:h' b=h b:=hh b (by rw[e1];exact List.mem_cons_self ..)
        try simp only[bY,e2,hr,e3]
       have Ta:bY ti slot h (.c (.sl b off len cp)) x=some e:=by
        try simp only[bY,hr,hb]
        try rw[if_neg h0,if_neg lF,if_neg hc]
        exact he
       have hrd:e.rd=b::nF:=by
        split at he
        ·cases he;rfl
        ·split at he
         ·split at he
          ·cases he;rfl
          ·cases he
         ·split at he
          ·cases he;rfl
          ·cases he
       rw[fin nF hrd rfl];exact Ta
     ·cases he
    ·cases he
theorem AL {ti:TI} {h h':Hp} {d x:AV} {e:bZ} (he:kf ti h d x=some e) (hh:∀b∈e.rd,h' b=h b):kf ti h' d x=some e:=by
 unfold kf at he;split at he
 ·rename_i src nF b off len cp hr
  split at he
  ·rename_i sz rows g hb
   split at he
   ·rename_i hc
    cases he;have e2:=fW (h':=h') hr fun b hb=>hh b (List.mem_cons_of_mem _ hb)
    have e3:h' b=h b:=hh b (List.mem_cons_self ..)
    try simp only[kf,e2,e3,hb]
    try rw[if_pos hc]
   ·cases he
  ·cases he
 ·cases he
theorem CU {C:dP} {t:TypeId} {h h':Hp} {x:AV} {e:bZ} (he:nW C h t x=some e) (hh:∀b∈e.rd,h' b=h b):nW C h' t x=some e:=by
 unfold nW at he ⊢;split at he
 ·cases he
 ·rename_i ti cB
  try simp only[cB]
  split at he
  ·exact he
  ·exact he
  ·exact he
  ·exact he
  ·rename_i b hk
   split at he
   ·rename_i cF hb
    cases he;have e3:h' b=h b:=hh b (List.mem_cons_self ..)
    try simp only[e3,hb]
   ·cases he
  ·cases he
theorem tZ {C:dP} {s d:TypeId} {h h':Hp} {x:AV} {e:bZ} (he:dV C h s d x=some e) (hh:∀b∈e.rd,h' b=h b):dV C h' s d x=some e:=by
 unfold dV at he ⊢;split at he
 ·rename_i ts td tg htd
  split at he
  ·simp only[*]
  ·simp only[*]
  ·rename_i el Em En
   split at he
   ·rename_i te rows rd de hr
    split at he
    ·rename_i l h1 h2 h3
     cases he;have e2:=fW (h':=h') hr hh
     try simp only[*]
    ·cases he
   ·cases he
  ·cases he
 ·cases he
theorem xj {C:dP} {t:TypeId} {h h':Hp} {x:AV} {lo hi mx:Option AV} {e:bZ} (he:db C h t x lo hi mx=some e) (hh:∀b∈e.rd,h' b=h b):db C h' t x lo hi mx=some e:=by
 unfold db at he ⊢;split at he
 ·cases he
 ·rename_i ti cB
  try simp only[cB]
  split at he
  ·rename_i l oI m h1 h2 h3
   try simp only[h1,h2,h3]
   split at he
   ·exact he
   ·rename_i el b off len cp hk
    simp only at he ⊢;split at he
    ·rename_i hc
     try rw[if_pos hc]
     split at he
     ·rename_i sz rows g fz te hb de
      split at he
      ·rename_i Hu
       cases he;have e3:h' b=h b:=hh b (List.mem_cons_self ..)
       try simp only[e3,hb,de]
       try rw[if_pos Hu]
      ·cases he
     ·rename_i m' sz rows g fz te hb de
      split at he
      ·rename_i Hu
       cases he;have e3:h' b=h b:=hh b (List.mem_cons_self ..)
       try simp only[e3,hb,de]
       try rw[if_pos Hu]
      ·cases he
     ·rename_i cells te hb de
      split at he
      ·rename_i Hu
       cases he;have e3:h' b=h b:=hh b (List.mem_cons_self ..)
       try simp only[e3,hb,de]
       try rw[if_pos Hu]
      ·cases he
     ·cases he
    ·cases he
   ·exact he
   ·rename_i n el b r c hk
    simp only at he ⊢;split at he
    ·rename_i cells te hb de
     split at he
     ·rename_i hc
      split at he
      ·rename_i ts tg
       cases he;have e3:h' b=h b:=hh b (List.mem_cons_self ..);simp only[e3,hb,de];rw[if_pos hc,tg]
      ·cases he
     ·cases he
    ·cases he
   ·cases he
  ·cases he
theorem vB {h h':Hp} {b:Nat}:∀(ws:List (Nat×Option aU)) {h h':Hp},h' b=h b->Cp h' ws b=Cp h ws b
 | [],h,h',e=>e
 | p::l,h,h',e=>by
  unfold Cp;refine vB (h:=h) (h':=h') l ?_;show(match Nat.beq b p.1 with|true=>p.2|false=>h' b)=match Nat.beq b p.1 with|true=>p.2|false=>h b
  rw[e]
theorem fX:∀(l:List (Nat×Nat×Nat)) {h h':Hp} {ws:List (Nat×Option aU)},eS h l=some ws->(∀b∈gM l++ids ws,h' b=h b)->eS h' l=some ws
 | [],h,h',ws,hw,_=>hw
 | (b,r,c)::l,h,h',ws,hw,hh=>by
  have hb:h' b=h b:=hh b (by simp[gM]);unfold eS at hw ⊢;rw[hb];cases hx:h b with
  | none=>
   rw[hx]at hw;exact fX l hw fun x hx=>hh x (by simp only[gM,List.mem_append,List.mem_cons]at hx ⊢;rcases hx with hx|hx;exact .inl (.inr hx);exact .inr hx)
  | some aR=>
   rw[hx]at hw;cases aR with
   | var cells=>
    simp only at hw ⊢;cases hs:Ju cells with
    | true=>
     rw[hs]at hw;simp only at hw ⊢;split at hw
     ·rename_i ts m ht
      split at hw
      ·rename_i ws2 Vn
       cases hw;have e1:=Pt (h':=h') ht fun x hx=>hh x (by simp[gM,ids]at hx ⊢;exact .inr (.inr (.inl hx)))
       have e2:=fX l (h':=Cp h' (m ++ [(b,some (.var (ts.map .t)))])) Vn fun x hx=>vB (h:=h) (h':=h') _ (hh x (by
        simp only[gM,ids,List.map_append,List.map_cons,List.mem_append,List.mem_cons]at hx ⊢;rcases hx with hx|hx
        ·exact .inl (.inr hx)
        ·exact .inr (.inr (.inr hx))))
       rw[e1];simp only[e2]
      ·cases hw
     ·cases hw
    | false=>
     rw[hs]at hw;exact fX l hw fun x hx=>hh x (by simp only[gM,List.mem_append,List.mem_cons]at hx ⊢;rcases hx with hx|hx;exact .inl (.inr hx);exact .inr hx)
   | _=>exact fX l hw fun x hx=>hh x (by simp only[gM,List.mem_append,List.mem_cons]at hx ⊢;rcases hx with hx|hx;exact .inl (.inr hx);exact .inr hx)
theorem AM {h h':Hp} {f:FuncId} {l:List (Nat×Nat×Nat)} {e:bZ} (he:rP h f l=some e) (hh:∀b∈e.rd,h' b=h b):rP h' f l=some e:=by
 unfold rP at he ⊢;split at he
 ·rename_i ws hw
  cases he;rw[fX l hw hh]
 ·cases he
theorem AN {C:dP} {slot:Nat} {σ:Operand->AV} {h h':Hp} {op:Op} {e:bZ} (he:evalOp C slot σ h op=some e) (hh:∀b∈e.rd,h' b=h b):evalOp C slot σ h' op=some e:=by
 cases op with
 | load t a=>
  simp only[evalOp]at he ⊢;split at he
  ·rename_i ti cB
   try simp only[cB]
   split at he
   ·rename_i b r c hg
    have hb:b∈e.rd:=by
     split at he
     ·split at he
      ·obtain⟨v,_,rfl⟩:=Option.map_eq_some_iff.1 he;simp
      ·cases he
     ·split at he
      ·obtain⟨v,_,rfl⟩:=Option.map_eq_some_iff.1 he;simp
      ·cases he
     ·cases he
    simp only[hh b hb];exact he
   ·exact he
   ·cases he
  ·cases he
 | store t a x=>
  simp only[evalOp]at he ⊢;split at he
  ·rename_i ti cs cB oF
   try simp only[cB,oF]
   split at he
   ·rename_i dG
    try rw[if_pos dG]
    split at he
    ·rename_i b r c hg
     split at he
     ·rename_i cells hb
      split at he
      ·rename_i hc
       cases he;have e3:h' b=h b:=hh b (List.mem_cons_self ..)
       try simp only[e3,hb]
       try rw[if_pos hc]
      ·cases he
     ·rename_i sz rows g hb
      split at he
      ·rename_i row ts m dv tg
       split at he
       ·rename_i hc
        cases he;have e3:h' b=h b:=hh b (List.mem_cons_self ..);have e4:=Pt (h':=h') tg fun b hb=>hh b (List.mem_cons_of_mem _ hb)
        try simp only[e3,hb,dv,e4]
        try rw[if_pos hc]
       ·cases he
      ·cases he
     ·cases he
    ·cases he
   ·cases he
  ·cases he
 | buildSlice t len parts=>
  simp only[evalOp]at he ⊢;split at he
  ·rename_i ti cB
   try simp only[cB]
   split at he
   ·rename_i el hk
    split at he
    ·rename_i te de
     try simp only[de]
     split at he
     ·rename_i hc
      try rw[if_pos hc]
      split at he
      ·rename_i e1 h1
       cases he;simp only[h1]
      ·rename_i h0
       split at he
       ·rename_i rows m hf
        cases he;rw[mm (h':=h') hf hh]
       ·cases he
     ·cases he
    ·cases he
   ·cases he
  ·cases he
 | convert s d x=>simp only[evalOp]at he ⊢;exact tZ he hh
 | slice t x lo hi mx=>simp only[evalOp]at he ⊢;exact xj he hh
 | indexAddr t x i=>
  simp only[evalOp]at he ⊢;split at he
  ·rename_i ti n cB hn
   try simp only[cB,hn]
   split at he
   ·exact he
   ·rename_i el hk
    split at he
    ·rename_i te de
     try simp only[de]
     split at he
     ·rename_i b off len cp hg
      have hb:b∈e.rd:=by
       split at he
       ·split at he
        ·cases he;simp
        ·cases he
       ·split at he
        ·cases he;simp
        ·cases he
       ·cases he
      simp only[hh b hb];exact he
     ·exact he
     ·cases he
    ·cases he
   ·cases he
  ·cases he
 | lookup t x i ok=>
  simp only[evalOp]at he ⊢;split at he
  ·rename_i ti cB
   try simp only[cB]
   split at he
   ·rename_i k el b key hk Ak I1
    have hb:b∈e.rd:=by
     split at he
     ·split at he
      ·cases he
      ·split at he
       ·cases he;simp
       ·cases he;simp
       ·cases he
     ·cases he
    simp only[hh b hb];exact he
   ·cases he
  ·cases he
 | mapUpdate t x i v=>
  simp only[evalOp]at he ⊢;split at he
  ·rename_i ti cB
   try simp only[cB]
   split at he
   ·rename_i k el b key tv hk Ak I1 SJ
    have hb:b∈e.rd:=by
     split at he
     ·split at he
      ·cases he
      ·split at he
       ·cases he;simp
       ·cases he
     ·cases he
    simp only[hh b hb];exact he
   ·cases he
  ·cases he
 | call c=>
  obtain⟨callee,args,argTypes⟩:=c;cases callee with
  | builtin b=>
   simp only[evalOp]at he ⊢;split at he
   ·exact CU he hh
   ·split at he
    ·rename_i ti cB
     try simp only[cB]
     split at he
     ·split at he
      ·rename_i te t1 de xg
       try simp only[de,xg]
       split at he
       ·rename_i L9 AD
        try simp only[AD]
        split at he
        ·split at he
         ·cases he
         ·rename_i hz
          try rw[if_neg hz]
          exact mn he hh
        ·split at he
         ·cases he
         ·rename_i hz
          try rw[if_neg hz]
          exact mn he hh
        ·cases he
       ·cases he
      ·cases he
     ·cases he
    ·cases he
   ·split at he
    ·rename_i ti cB
     try simp only[cB]
     split at he
     ·split at he
      ·rename_i te de
       try simp only[de]
       split at he
       ·cases he
       ·rename_i hz
        try rw[if_neg hz]
        exact AL he hh
      ·cases he
     ·cases he
    ·cases he
   ·exact he
   ·exact he
   ·cases he
  | _=>simp[evalOp]at he
 | makeFunc fn first a8=>
  cases fn with
  | func f=>
   simp only[evalOp]at he ⊢;split at he
   ·rename_i hz
    rw[if_pos hz];split at he
    ·rename_i l hb hl
     try simp only[hb,hl]
     exact AM he hh
    ·cases he
   ·rename_i hz
    rw[if_neg hz];exact he
  | _=>exact he
 | _=>exact he
end Go.Abs
end
