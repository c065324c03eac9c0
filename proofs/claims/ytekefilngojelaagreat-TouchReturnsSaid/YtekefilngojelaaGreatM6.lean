/- A part of the proof. -/
import Derived.IntWalk
import Derived.Test.YtekefilngojelaaGreatM5
set_option maxHeartbeats 0
set_option maxRecDepth 100000
set_option linter.unusedVariables false
set_option linter.unusedSimpArgs false
set_option linter.unusedSectionVars false
section
namespace Go.Abs
def eK (h:bM) (l:List (Nat×Option aC)):bM:=l.foldl (fun h p=>h.set p.1 p.2) h
theorem Mi:∀(l:List (Nat×Option aC)) (h:bM),(eK h l).length=h.length
 | [],_=>rfl
 | p::l,h=>by unfold eK;rw[List.foldl_cons];have:=Mi l (h.set p.1 p.2);unfold eK at this;rw[this];simp
theorem iJ (p:Nat×Option aC) (l:List (Nat×Option aC)) (h:bM):eK h (p::l)=eK (h.set p.1 p.2) l:=rfl
theorem GX (l l':List (Nat×Option aC)) (h:bM):eK h (l++l')=eK (eK h l) l':=by simp[eK]
theorem Ap {h:bM} {b:Nat} (hb:b<h.length) (x:Option aC):look (h.set b x) b=x:=by
 unfold look;rw[List.getElem?_set,if_pos rfl,if_pos hb];rfl
theorem sZ {h:bM} {b b':Nat} (cY:b'≠b) (x:Option aC):look (h.set b x) b'=look h b':=by
 unfold look;rw[List.getElem?_set,if_neg (by omega)]
def eF (h h':bM):Prop:=h'.length=h.length/\∀b,look h' b=look h b∨∃sz rows g fz,look h b=some (.rows sz rows g fz)/\look h' b=some (.rows sz rows g true)
theorem eF.refl (h:bM):eF h h:=⟨rfl,fun _=>.inl rfl⟩
section
variable {P:Program} {C:eh} {K:Ctx} {β:Nat->Option bR} {S:Place} {st:St} {a:Act} {w:World} {slot:Nat} {e:bW} {o:Oper}
theorem Sat.mark (h:Sat K β S st a w) {b sz:Nat} {rows:List (List Tree)} {g fz:Bool} (hb:look st.heap b=some (.rows sz rows g fz)) :
  ∃S',(∀c o,S c o->S' c o)/\Sat K β S' ⟨st.tmps,st.heap.set b (some (.rows sz rows g true))⟩ a w /\
   ∀R,β b=some R->∀o,R.co<=o->o<R.co+rows.length*R.ai->S' R.cb o:=by
 obtain⟨R,hR,iU,hx,GV⟩:=h.au b _ hb;have bG:=sW hb;obtain⟨h0,h1,h2,h3,Yt,h4,h5,h6⟩:=iU;have hle:rows.length<=(if g then R.cap else rows.length):=by split<;>omega
 have hmul:=Nat.mul_le_mul_right R.ai hle
 let S':Place:=fun c o=>S c o∨(c=R.cb/\R.co<=o/\o<R.co+rows.length*R.ai)
 have Ao:∀c o,S c o->S' c o:=fun _ _ hx=>.inl hx
 have iR:∀c o,S' c o->S c o∨(aC.rows sz rows g fz).ext R c o:=by
  rintro c o (hs|⟨e1,e2,e3⟩)
  ·exact .inl hs
  ·exact .inr ⟨e1,e2,by omega⟩
 refine⟨S',Ao,?_,fun R' gW o e1 e2=>by rw[hR]at gW;cases gW;exact .inr ⟨rfl,e1,e2⟩⟩;refine h.step (Wr:=fun _ _=>False) (fun b'=>b'=b) (fh.refl _ _) (fun _ _ hx=>hx.elim) (fun _ _ hx=>hx) (fun b' R' bK=>by simpa using h.top b' R' bK) Ao (fun c o hs=>?_) (fun b' db hD bK=>?_) (fun b' db hD bK=>?_)
 ·rcases iR c o hs with hs|hs
  ·exact .inl hs
  ·refine .inr ⟨(hx c o hs).1,(hx c o hs).2,fun b' db R' hD bK gW hy=>?_⟩
   exact h.mz b b' _ db R R' (Ne.symm hD) hb bK hR gW c o hs (aC.fG hy)
 ·rw[sZ hD]at bK;exact bK
 ·subst hD
  rw[Ap bG]at bK;cases bK;refine⟨R,hR,⟨h0,h1,h2,h3,Yt,h4,fun i j t ht=>?_,fun _ o e1 e2=>.inr ⟨rfl,e1,e2⟩⟩,hx,fun c o hy hs=>?_,fun EH iI wm cY jc mG c o hy=>?_⟩
  ·obtain⟨v,e1,e2⟩:=h5 i j t ht
   exact⟨v,e1,e2.mono Ao fun _ _ _=>rfl⟩
  ·obtain⟨e1,e2,e3⟩:=hy
   rw[if_pos rfl]at e2;rcases hs with hs|⟨_,_,e6⟩
   ·refine GV c o ⟨e1,?_,e3⟩ hs
    split<;>omega
   ·omega
  ·rw[sZ cY]at jc
   exact h.mz _ _ _ _ R wm (Ne.symm cY) hb jc hR mG c o hy
theorem pL {cur:bM} (h:Sat K β S ⟨st.tmps,cur⟩ a w) (hm:eF st.heap cur) {c:Cell} {v:Value} (hc:dq β S w c v) {t:Tree} {m:List (Nat×Option aC)} (ht:toTree (look st.heap) c=some (t,m)) :
  ∃S',(∀c o,S c o->S' c o)/\Sat K β S' ⟨st.tmps,eK cur m⟩ a w/\eF st.heap (eK cur m)/\dR S' w t v:=by
 unfold toTree at ht;split at ht
 ·cases ht
  cases hc with|t hc=>
  exact⟨S,fun _ _ hx=>hx,h,hm,hc⟩
 ·rename_i b off len cp
  split at ht
  ·rename_i sz rows g fz hb
   split at ht
   ·rename_i hle
    cases ht;have aav:∃fz',look cur b=some (.rows sz rows g fz'):=by
     rcases hm.2 b with e|⟨kX,dv,g',fz',e1,e2⟩
     ·exact⟨fz,by rw[e,hb]⟩
     ·rw[hb]at e1;cases e1;exact⟨true,e2⟩
    obtain⟨fz',bK⟩:=aav;obtain⟨S',Ao,kC,SC⟩:=h.mark bK;refine⟨S',Ao,kC,⟨by simp[eK,hm.1],fun b'=>?_⟩,?_⟩
    ·by_cases CA:b'=b
     ·subst CA
      exact .inr ⟨sz,rows,g,fz,hb,by simp only[eK,List.foldl_cons,List.foldl_nil];exact Ap (sW bK) _⟩
     ·have:look (eK cur [(b,some (.rows sz rows g true))]) b'=look cur b':=by simp only[eK,List.foldl_cons,List.foldl_nil];exact sZ CA _
      rw[this];exact hm.2 b'
    ·cases hc with|sl R base cap hR h1 h2 h3 h4 h5=>
     obtain⟨R',e1,e2,_⟩:=h.au b _ bK;rw[hR]at e1;cases e1;obtain⟨f0,f1,f2,f3,f3',f4,f5,f6⟩:=e2;have hl:((rows.drop off).take len).length=len:=by rw[List.length_take,List.length_drop];omega
     have hex:∃val:Nat->Nat->Value,∀i j t,fg ((rows.drop off).take len) i j=some t->w.cell? ⟨R.cb,R.co+off*R.ai+i*R.ai+j,none⟩=some (val i j)/\dR S' w t (val i j):=by
      have:∀i j,∃v,∀t,fg ((rows.drop off).take len) i j=some t->w.cell? ⟨R.cb,R.co+off*R.ai+i*R.ai+j,none⟩=some v/\dR S' w t v:=by
       intro i j;cases ht:fg ((rows.drop off).take len) i j with
       | none=>exact⟨undef,by simp⟩
       | some t=>
        obtain⟨v,a1,a2⟩:=f5 _ _ _ (gF ht).2;refine⟨v,fun t' mM=>?_⟩;cases mM;rw[Nat.add_mul,<-Nat.add_assoc]at a1;exact⟨a1,a2.mono Ao fun _ _ _=>rfl⟩
      exact⟨fun i j=>(this i j).choose,fun i j t ht=>(this i j).choose_spec t ht⟩
     obtain⟨val,pK⟩:=hex;have Hg:∀r∈((rows.drop off).take len),r.length=R.ai:=fun r hr=>f1 r (qU hr)
     have iR:∀i j t,fg ((rows.drop off).take len) i j=some t->S' R.cb (R.co+off*R.ai+i*R.ai+j):=by
      intro i j t ht;obtain⟨_,_,bG⟩:=g7 f1 (gF ht).2;rw[Nat.add_mul]at bG;exact SC R hR _ (by omega) (by omega)
     generalize ((rows.drop off).take len)=rs at hl pK Hg iR ⊢;subst hl;refine .aa cp rs base R.cb (R.co+off*R.ai) R.ai cap val h3 (by omega) (by omega) h1 (fun cY=>h5 ?_) (fun hb=>?_) Hg (fun i j t ht=>⟨iR i j t ht,(pK i j t ht).1⟩) (fun i j t ht=>(pK i j t ht).2)
     ·have:=List.length_pos_iff.2 cY;omega
     ·rcases Nat.eq_zero_or_pos cap with h|h
      ·exact h
      ·have:=h5 h;rw[hb]at this;cases this
   ·cases ht
  ·cases ht
 ·cases ht
theorem gk:∀(cs:List Cell) (vs:List Value) (cur:bM) (S:Place) (ts:List Tree) (m:List (Nat×Option aC)),Sat K β S ⟨st.tmps,cur⟩ a w->eF st.heap cur ->
  vs.length=cs.length->(∀(i:Nat) (c:Cell),cs[i]?=some c->∃v,vs[i]?=some v/\dq β S w c v)->bL (look st.heap) cs=some (ts,m) ->
  ∃S',(∀c o,S c o->S' c o)/\Sat K β S' ⟨st.tmps,eK cur m⟩ a w/\eF st.heap (eK cur m)/\ts.length=cs.length/\∀(i:Nat) (t:Tree),ts[i]?=some t->∃v,vs[i]?=some v/\dR S' w t v
 | [],vs,cur,S,ts,m,h,hm,_,_,ht=>by
  simp[bL]at ht;obtain⟨rfl,rfl⟩:=ht;exact⟨S,fun _ _ hx=>hx,h,hm,rfl,by simp⟩
 | c::cs,[],_,_,_,_,_,_,hl,_,_=>by simp at hl
 | c::cs,v::vs,cur,S,ts,m,h,hm,hl,hr,ht=>by
  unfold bL at ht;split at ht
  ·rename_i t m1 yv
   split at ht
   ·rename_i Pj m2 Vz
    cases ht;obtain⟨v',sQ,hc⟩:=hr 0 c rfl;simp at sQ;subst sQ;obtain⟨S1,Rb,EI,An,SD⟩:=pL h hm hc yv;obtain⟨S2,Rc,VD,J7,ee,uv⟩:=gk cs vs _ S1 Pj m2 EI An (by simpa using hl) (fun i c hi=>by
     obtain⟨u,e1,e2⟩:=hr (i+1) c (by simpa using hi);exact⟨u,by simpa using e1,e2.mono (fun _ _ hx=>hx) Rb fun _ _ _=>rfl⟩) Vz
    refine⟨S2,fun c o hx=>Rc _ _ (Rb _ _ hx),by rw[GX];exact VD,by rw[GX];exact J7,by simp[ee],fun i t' hi=>?_⟩;cases i with
    | zero=>simp at hi;subst hi;exact⟨v,rfl,SD.mono Rc fun _ _ _=>rfl⟩
    | succ i=>simpa using uv i t' (by simpa using hi)
   ·cases ht
  ·cases ht
def oN (P:Program) (K:Ctx) (β:Nat->Option bR) (S:Place) (st:St) (a:Act) (w:World) (slot:Nat) (o:Oper) (e:bW):Prop:=
 ∃w' β' S' v nx,(execOp a.eval o).run P w=.ok nx w'/\(nx=.value v∨(nx=.skip/\v=undef))/\(∀b,b≠slot->β' b=β b) /\
  Sat K β' S' ⟨st.tmps,eK st.heap e.wr⟩ a w'/\aH β' S' w' e.val v
theorem fk.lj (h:Sat K β S st a w) (hq:fk P β S a w o e):oN P K β S st a w slot o e:=by
 obtain⟨h1,v,h2,h3⟩:=hq;exact⟨w,β,S,v,_,h2,.inl rfl,fun _ _=>rfl,by rw[h1];exact h,h3⟩
theorem Pk (hC:bq P C) (h:Sat K β S st a w) (hs:slot<st.heap.length) (hf:β slot=none) {t:TypeId} (ho:o.op=.alloc t)
  (he:evalOp C slot st.get (look st.heap) (.alloc t)=some e):oN P K β S st a w slot o e:=by
 simp only[evalOp]at he;split at he
 ·rename_i ti bZ
  cases he;have dM:=iV (hC t ti bZ);obtain⟨i,z,h1,h2,h3,h4,_⟩:=qX dM S w β;obtain⟨β',e1,e2,e3⟩:=h.newVar hs hf (w':={ w with heap:=w.heap.push (.cells z.cells t) }) (cells:=z.cells) (el:=t) rfl rfl rfl rfl h4;refine⟨_,β',S,_,_,?_,.inl rfl,e1,e2,e3⟩;simp only[execOp,ho,Instr.alloc,Go.zeroValue,Go.typeInfo,Sem.run_bind,run_program,h1,Result.andThen,Sem.run_pure,h2,newVar,newRow,run_newObj]
 ·cases he
theorem VE (hC:bq P C) (h:Sat K β S st a w) (hs:slot<st.heap.length) (hf:β slot=none) {t:TypeId} {x:Operand} (ho:o.op=.box t x)
  (he:evalOp C slot st.get (look st.heap) (.box t x)=some e):oN P K β S st a w slot o e:=by
 simp only[evalOp]at he;split at he
 ·rename_i ti cs bZ pF
  split at he
  ·cases he
   obtain⟨h1,h2⟩:=(h.get x).Cs pF;obtain⟨β',e1,e2,e3⟩:=h.newVar hs hf (w':={ w with heap:=w.heap.push (.cells (a.eval x).cells t) }) (cells:=(a.eval x).cells) (el:=t) rfl rfl rfl rfl ⟨by simpa using h1,by simpa using h2⟩;refine⟨_,β',S,_,_,?_,.inl rfl,e1,e2,e3⟩;simp only[execOp,ho,Instr.box,Sem.run_bind,Result.andThen,Sem.run_pure,newVar,newRow,run_newObj]
  ·cases he
 ·cases he
theorem Kc (hC:bq P C) (h:Sat K β S st a w) (hs:slot<st.heap.length) (hf:β slot=none) {t:TypeId} {r:Option Operand} (ho:o.op=.makeMap t r)
  (he:evalOp C slot st.get (look st.heap) (.makeMap t r)=some e):oN P K β S st a w slot o e:=by
 simp only[evalOp]at he;split at he
 ·rename_i ti bZ
  split at he
  ·rename_i k el hk
   cases he
   let R:bR:=⟨w.heap.size,0,0,0⟩
   refine⟨{ w with heap:=w.heap.push (.map #[] 0) },(fun b=>if b=slot then some R else β b),S,.map (some w.heap.size),.value (.map (some w.heap.size)),?_,.inl rfl,fun b hb=>if_neg hb,?_,.c (.mp R (by simp))⟩
   ·simp only[execOp,ho,Instr.makeMap,Option.map_none,Sem.run_bind,Result.andThen,Sem.run_pure,run_newObj]
   ·refine h.new hs hf (R:=R) rfl rfl rfl rfl rfl (fun _ _ hx=>hx) (fun _ _ hx=>.inl hx) ⟨by have:=h.jF.size;unfold Ctx.B0;simp[R];omega,#[],0,by simp[R],rfl,by simp⟩ fun c o hx hy=>?_
    have e1:c=w.heap.size:=hx.1;have:=h.sN c o hy;omega
  ·cases he
 ·cases he
theorem EJ {t:TypeId} {ti:TI} (dM:gV P t ti) (dS:ti.size≠0) (S:Place) (w:World) (n:Nat):∃z:Value,(zeroValue t).run P w=.ok z w/\z.cells.size=ti.size /\
  Flat S w (List.replicate n ti.zero) ti.size (((Array.range (n*ti.size)).map (z.cells[· % z.cells.size]!)).toList):=by
 obtain⟨z,e1,e2,e3,_,_⟩:=dM.zeroValue w S;refine⟨z,e1,e2,by simp,fun i j t' ht=>?_⟩;obtain⟨row,h1,h2,h3,h4⟩:=iS ht;rw[List.length_replicate]at h3;rw[List.getElem?_replicate,if_pos h3]at h1;cases h1;rw[dM.len]at h4;obtain⟨v,hv,hr⟩:=e3 j t' h2;refine⟨v,?_,hr⟩;have bG:i*ti.size+j<n*ti.size:=by
  have:=Nat.mul_le_mul_right ti.size (show i+1<=n by omega);rw[Nat.succ_mul]at this;omega
 have SE:(i*ti.size+j)%ti.size=j:=by rw[Nat.mul_comm,Nat.mul_add_mod,Nat.mod_eq_of_lt h4]
 simp only[Array.toList_map,List.getElem?_map,Array.toList_range,List.getElem?_range bG,Option.map_some,e2,SE];congr 1;have sQ:z.cells[j]?=some v:=by simpa using hv
 rw[getElem!_pos z.cells j (by rw[e2];exact h4)];rw[Array.getElem?_eq_getElem (by rw[e2];exact h4)]at sQ;cases sQ;rfl
theorem Sat.Kd (h:Sat K β S st a w) {b:Nat} {ts:List Tree} (hb:look st.heap b=some (.rows 1 (ts.map fun t=>[t]) true false)) :
  Sat K β S ⟨st.tmps,st.heap.set b (some (.var (ts.map .t)))⟩ a w:=by
 obtain⟨R,hR,iU,hx,GV⟩:=h.au b _ hb;obtain⟨q0,q1,q2,q3,SF,q4,q5,q6⟩:=iU;have bG:=sW hb;have SG:∀c o,(aC.var (ts.map .t)).ext R c o->(aC.rows 1 (ts.map fun t=>[t]) true false).ext R c o:=by
  rintro c o ⟨e1,e2,e3⟩
  refine⟨e1,e2,?_⟩;simp only[List.length_map,if_true]at e3 q2 ⊢;rw[<-q0,Nat.mul_one];omega
 refine h.step (Wr:=fun _ _=>False) (fun b'=>b'=b) (fh.refl _ _) (fun _ _ hx=>hx.elim) (fun _ _ hx=>hx) (fun b' R' bK=>by simpa using h.top b' R' bK) (fun _ _ hs=>hs) (fun c o hs=>.inl hs) (fun b' db hD bK=>by rwa[sZ hD]at bK) (fun b' db hD bK=>?_);subst hD;rw[Ap bG]at bK;cases bK;refine⟨R,hR,⟨⟨fun o e1 e2=>?_,q0.symm,q3⟩,fun j c hj=>?_⟩,fun c o hy=>hx c o (SG c o hy),fun c o hy=>GV c o ?_,fun b2 Ke R2 cY mX qK c o hy hz=>?_⟩
 ·refine q4 o e1 ?_
  simp only[List.length_map,if_true]at e2 q2 ⊢;rw[<-q0,Nat.mul_one];omega
 ·rw[List.getElem?_map]at hj
  obtain⟨t,ht,rfl⟩:=Option.map_eq_some_iff.1 hj;obtain⟨v,e1,e2⟩:=q5 j 0 t (by unfold fg;rw[List.getElem?_map,ht];rfl);refine⟨v,?_,.t e2⟩;rw[<-q0,Nat.mul_one,Nat.add_zero]at e1;exact e1
 ·obtain⟨e1,e2,e3⟩:=SG c o hy
  exact⟨e1,by simpa using e2,e3⟩
 ·rw[sZ cY]at mX
  exact h.mz b' b2 _ Ke R R2 (Ne.symm cY) hb mX hR qK c o (SG c o hy) hz
theorem EK (hC:bq P C) (h:Sat K β S st a w) (hs:slot<st.heap.length) (hf:β slot=none) {t:TypeId} {l c:Operand} (ho:o.op=.makeSlice t l c)
  (he:evalOp C slot st.get (look st.heap) (.makeSlice t l c)=some e):oN P K β S st a w slot o e:=by
 simp only[evalOp]at he;split at he
 ·rename_i ti bZ
  have dM:=iV (hC t ti bZ);split at he
  ·rename_i el hk
   split at he
   ·rename_i te n m du hn hm
    have eE:=iV (hC _ te du);split at he
    ·rename_i hr
     obtain⟨r1,r2,r3,r4,r5⟩:=hr;obtain⟨k1,kv,_⟩:=(h.get l).int hn;obtain⟨k2,ee,_⟩:=(h.get c).int hm;obtain⟨z,z1,z2,z3⟩:=EJ eE r5 S w m.toNat;obtain⟨i,i1,i2,_⟩:=eE.typeInfo w;have hmb:m<=(az:Int):=by
      have h1:m*1<=m*(te.bytes:Int):=Int.mul_le_mul_of_nonneg_left (by omega) (by omega);omega
     unfold az at hmb r3;have Hf:n.toNat<=m.toNat:=by omega
     have hwn:IntKind.i64.wrap n=n:=IntWalk.i64_in n (by omega);have hwm:IntKind.i64.wrap m=m:=IntWalk.i64_in m (by omega)
     let cells:Array Value:=(Array.range (m.toNat*te.size)).map (z.cells[· % z.cells.size]!)
     have Ct:Flat S w (List.replicate n.toNat te.zero) te.size (cells.toList.take ((List.replicate n.toNat te.zero).length*te.size)):=by
      have hmul:=Nat.mul_le_mul_right te.size Hf;refine⟨by rw[List.length_take,List.length_replicate,Nat.min_eq_left (by simp[cells];exact hmul)],fun i j t ht=>?_⟩;have iR:=g7 (size:=te.size) (fun r hr=>by rw[(List.mem_replicate.1 hr).2];exact eE.len) ht;obtain⟨v,e1,e2⟩:=z3.2 i j t (by
       obtain⟨row,h1,h2,h3,h4⟩:=iS ht;rw[List.length_replicate]at h3;rw[List.getElem?_replicate,if_pos h3]at h1;exact GM (by rw[List.getElem?_replicate,if_pos (by omega)];exact h1) h2)
      exact⟨v,by rw[List.getElem?_take,if_pos iR.2.2];exact e1,e2⟩
     obtain⟨β',S',e1,e2,e3,e4⟩:=h.Cy hs hf (w':={ w with heap:=w.heap.push (.cells cells el) }) (cells:=cells) (el:=el) (rows:=List.replicate n.toNat te.zero) (size:=te.size) (cap:=m.toNat) (g:=true) (fz:=false) rfl rfl rfl rfl
      (fun r hr=>by rw[(List.mem_replicate.1 hr).2];exact eE.len) (by simp;omega) (by omega) (by simp;omega) (by simp[cells]) Ct
     rw[List.length_replicate]at e3;have cZ:(execOp a.eval o).run P w=.ok (.value (.slice (some ⟨w.heap.size,0,none⟩) n.toNat m.toNat)) { w with heap:=w.heap.push (.cells cells el) }:=by
      have mH:¬(((m<0∨(te.bytes:Int)*m>2^48)∨n<0)∨n>m):=by
       have:=Int.mul_comm (te.bytes:Int) m;omega
      simp only[execOp,ho,Instr.makeSlice,run_underlying (dM.slice hk),Sem.run_bind,Result.andThen,kv,ee,asInt,asIntOf,Sem.run_pure,i1,i2,hwn,hwm,Sem.run_ite,run_askRoom,eE.sizeOf,newRow,run_newObj];rw[if_neg (by simpa[Bool.or_eq_true]using mH)]
      by_cases h0:m.toNat*te.size=0
      ·have yw:m.toNat=0:=by
        rcases Nat.mul_eq_zero.1 h0 with h|h
        ·exact h
        ·exact absurd h r5
       simp[h0,cells,yw,Array.range_zero']
      ·simp[h0,cells,z1]
     split at he
     ·rename_i z0 pF Kf
      cases he;have aax:te.size=1:=by rw[<-eE.len,Kf];rfl
      have jt:List.replicate n.toNat [z0]=(List.replicate n.toNat z0).map fun t=>[t]:=by rw[List.map_replicate]
      rw[Kf,aax,jt]at e2;have e5:=Sat.Kd e2 (b:=slot) (ts:=List.replicate n.toNat z0) (Ap hs _);simp only[List.set_set]at e5;rw[show(List.replicate n.toNat z0).map Cell.t=List.replicate n.toNat (.t z0) from List.map_replicate]at e5;exact⟨_,β',S',_,_,cZ,.inl rfl,e1,e5,e3⟩
     ·cases he
      exact⟨_,β',S',_,_,cZ,.inl rfl,e1,e2,e3⟩
    ·cases he
   ·cases he
  ·cases he
 ·cases he
end
theorem CB (w:World) (b o:Nat) (v:Value):fh (fun c o'=>c=b/\o'=o) w (w.setCell ⟨b,o,none⟩ v):=by
 refine⟨rfl,rfl,rfl,by simp[World.setCell],fun k ob hk=>?_⟩;simp only[World.setCell,Array.getElem?_modify]
 by_cases hb:b=k
 ·subst hb
  rw[if_pos rfl,hk];cases ob with
  | cells c el fr=>
   refine⟨c.setIfInBounds o v,rfl,by simp,fun i hi=>?_⟩;rw[Array.getElem?_setIfInBounds,if_neg (by rintro rfl;exact hi ⟨rfl,rfl⟩)]
  | map es cl=>exact⟨es,cl,rfl,fun _=>⟨rfl,rfl⟩⟩
  | _=>rfl
 ·rw[if_neg hb,hk]
  exact fP.refl _ _ _
theorem iq (b:Nat):∀(vs:List Value) (lo:Nat) (w:World),fh (fun c o=>c=b/\lo<=o/\o<lo+vs.length) w (w.setCells b lo vs)
 | [],lo,w=>fh.refl _ _
 | v::vs,lo,w=>by
  have h1:=(CB w b lo v).mono (W':=fun c o=>c=b/\lo<=o/\o<lo+(v::vs).length) fun c o _ hx=>⟨hx.1,by omega,by simp;omega⟩
  exact h1.trans (iq b vs (lo+1) _) fun c o _ hx=>⟨hx.1,by omega,by simp;omega⟩
theorem VF (b:Nat):∀(vs:List Value) (lo:Nat) (w:World),(w.setCells b lo vs).heap.size=w.heap.size
 | [],_,_=>rfl
 | v::vs,lo,w=>by rw[World.setCells,VF b vs];simp[World.setCell]
section
variable {P:Program} {C:eh} {K:Ctx} {β:Nat->Option bR} {S:Place} {st:St} {a:Act} {w:World} {slot:Nat} {e:bW} {o:Oper}
theorem UG {w:World} {cb co n:Nat} (h:there w cb co n) {b lo:Nat} {vs:List Value} (iR:∀j,j<vs.length->(w.cell? ⟨b,lo+j,none⟩).isSome=true):there (w.setCells b lo vs) cb co n:=by
 intro o h1 h2;obtain⟨e1,e2⟩:=h o h1 h2;rw[World.frozen?_setCells];refine⟨?_,e2⟩
 by_cases hx:cb=b/\lo<=o/\o<lo+vs.length
 ·obtain⟨rfl,h3,h4⟩:=hx
  have:=World.cell?_setCells_in cb vs lo w iR (o-lo) (by omega);rw[show lo+(o-lo)=o by omega]at this;rw[this];rfl
 ·rw[World.cell?_setCells_out b vs lo w ⟨cb,o,none⟩ (fun e _=>by
   have:cb=b:=e;show o<lo∨lo+vs.length<=o
   omega)]
  exact e1
theorem Sat.write (h:Sat K β S st a w) {b:Nat} {au db:aC} {R:bR} (hb:look st.heap b=some au) (hR:β b=some R) (lo:Nat) (vs:List Value)
  (iR:∀j,j<vs.length->au.wr R R.cb (lo+j)) (CE:∀c o,db.ext R c o->au.ext R c o) (GV:∀c o,db.wr R c o->au.wr R c o)
  (iU:eA β S (w.setCells R.cb lo vs) K.B0 R db):Sat K β S ⟨st.tmps,st.heap.set b (some db)⟩ a (w.setCells R.cb lo vs):=by
 obtain⟨R',gW,_,hx,hw⟩:=h.au b _ hb;rw[hR]at gW;cases gW;have bG:=sW hb;have Mj:∀c o,(c=R.cb/\lo<=o/\o<lo+vs.length)->au.wr R c o:=by
  rintro c o ⟨rfl,h1,h2⟩
  have:=iR (o-lo) (by omega);rwa[show lo+(o-lo)=o by omega]at this
 refine h.step (fun b'=>b'=b) (iq R.cb vs lo w) (fun c o hc bG=>⟨hw c o (Mj c o hc),(hx c o (aC.fG (Mj c o hc))).2,fun b' iI wm hD bK mG hy=>?_⟩) (fun _ _ hx=>hx) (fun b' R' bK=>by simpa using h.top b' R' bK) (fun _ _ hx=>hx) (fun c o hs=>.inl hs) (fun b' iI hD bK=>?_) (fun b' iI hD bK=>?_)
 ·exact h.mz b b' _ iI R wm (Ne.symm hD) hb bK hR mG c o (aC.fG (Mj c o hc)) hy
 ·rw[sZ hD]at bK;exact bK
 ·subst hD
  rw[Ap bG]at bK;cases bK;refine⟨R,hR,iU,fun c o hy=>?_,fun c o hy=>hw c o (GV c o hy),fun EH iI wm cY jc mG c o hy=>?_⟩
  ·rw[VF];exact hx c o (CE c o hy)
  ·rw[sZ cY]at jc
   exact h.mz _ _ _ _ R wm (Ne.symm cY) hb jc hR mG c o (CE c o hy)
theorem CG {t:TypeId} {ti:TI} (dM:gV P t ti) {v:Value} (dS:v.cells.toList.length=ti.size) (J3:∀u∈v.cells.toList,one u) {cb co:Nat} (vC:there w cb co ti.size) :
  (storeVar t ⟨cb,co,none⟩ v).run P w=.ok () (w.setCells cb co v.cells.toList):=by
 have hs:=run_storeCells_cells (P:=P) cb co v.cells.toList 0 w (fun j hj=>(vC (co+0+j) (by omega) (by omega)).1) (fun j hj=>(vC (co+0+j) (by omega) (by omega)).2) (fun u hu=>iF (J3 u hu));simp only[Nat.add_zero]at hs;simp only[storeVar,Sem.run_bind,dM.sizeOf,Result.andThen];rw[if_neg (by simpa using dS)];exact hs
theorem gl {b lo:Nat} {vs:List Value} (iR:∀j,j<vs.length->(w.cell? ⟨b,lo+j,none⟩).isSome=true) {k:Nat} (h1:lo<=k) (h2:k<lo+vs.length) {v:Value} (hv:vs[k-lo]?=some v) :
  (w.setCells b lo vs).cell? ⟨b,k,none⟩=some v:=by
 have:=World.cell?_setCells_in b vs lo w iR (k-lo) (by omega);rw[show lo+(k-lo)=k by omega]at this;rw[this,<-List.getElem?_eq_getElem];exact hv
theorem SH {b lo:Nat} {vs:List Value} {c k:Nat} (h:¬(c=b/\lo<=k/\k<lo+vs.length)):(w.setCells b lo vs).cell? ⟨c,k,none⟩=w.cell? ⟨c,k,none⟩:=
 World.cell?_setCells_out b vs lo w ⟨c,k,none⟩ fun e _=>by
  have:c=b:=e;show k<lo∨lo+vs.length<=k
  omega
theorem Sat.ek (h:Sat K β S st a w) {b:Nat} {au:aC} {R:bR} (hb:look st.heap b=some au) (hR:β b=some R) {lo:Nat} {vs:List Value} (iR:∀j,j<vs.length->au.wr R R.cb (lo+j)) :
  ∀c o,S c o->(w.setCells R.cb lo vs).cell? ⟨c,o,none⟩=w.cell? ⟨c,o,none⟩:=by
 obtain⟨R',gW,_,hx,hw⟩:=h.au b _ hb;rw[hR]at gW;cases gW;intro c o hs;refine SH fun hx=>?_
 obtain⟨rfl,h1,h2⟩:=hx;have:=iR (o-lo) (by omega);rw[show lo+(o-lo)=o by omega]at this;exact hw _ _ this hs
theorem Pl (hC:bq P C) (h:Sat K β S st a w) {t:TypeId} {x y:Operand} (ho:o.op=.store t x y)
  (he:evalOp C slot st.get (look st.heap) (.store t x y)=some e):oN P K β S st a w slot o e:=by
 simp only[evalOp]at he;have hx:=h.get x;have hy:=h.get y;split at he
 ·rename_i ti cs bZ pF
  have dM:=iV (hC t ti bZ);obtain⟨kv,ee⟩:=hy.Cs pF;split at he
  ·rename_i dS
   have J3:∀u∈(a.eval y).cells.toList,one u:=by
    intro u hu;obtain⟨i,hi⟩:=List.getElem?_of_mem hu;have bG:=uo hi;obtain⟨u',e1,e2⟩:=ee i (cs[i]'(by omega)) (List.getElem?_eq_getElem _);rw[hi]at e1;cases e1;exact e2.one
   split at he
   ·rename_i b r c hg
    rw[hg]at hx;cases hx with|c hx=>
    generalize eI:a.eval x=av at hx;cases hx with|ptr R hR=>
    have cZ:∀co,there w R.cb co ti.size->a.eval x=.pointer (some ⟨R.cb,co,none⟩)->(execOp a.eval o).run P w=.ok .skip (w.setCells R.cb co (a.eval y).cells.toList):=by
     intro co vC YB;simp only[execOp,ho,Instr.storeAt,YB,Instr.sureAddr,Sem.run_bind,Sem.run_pure,Result.andThen,CG dM (by omega) J3 vC]
    split at he
    ·rename_i cells hb
     split at he
     ·rename_i hr
      obtain⟨rfl,hle⟩:=hr;cases he;obtain⟨R',e1,⟨⟨e2,e2s⟩,e3⟩,e4,e5⟩:=h.au b _ hb;rw[hR]at e1;cases e1;rw[show R.co+0*R.ai+c=R.co+c by omega]at eI;have vC:there w R.cb (R.co+c) ti.size:=fun o h1 h2=>e2 o (by omega) (by omega)
      have iR:∀j,j<(a.eval y).cells.toList.length->(aC.var cells).wr R R.cb (R.co+c+j):=fun j hj=>⟨rfl,by omega,by omega⟩
      have hex:∀j,j<(a.eval y).cells.toList.length->(w.cell? ⟨R.cb,R.co+c+j,none⟩).isSome=true:=fun j hj=>(vC _ (by omega) (by omega)).1
      have hlen:=SA cells cs c hle;have Aq:=h.ek hb hR iR;refine⟨_,β,S,undef,.skip,cZ _ vC eI,.inr ⟨rfl,rfl⟩,fun _ _=>rfl,?_,.af _⟩;refine h.write hb hR _ _ iR (fun c o hy=>by rw[aC.ext,hlen]at hy;exact hy) (fun c o hy=>by rw[aC.wr,hlen]at hy;exact hy) ⟨⟨?_,e2s⟩,fun j y hj=>?_⟩
      ·rw[hlen];exact UG e2 hex
      ·rw[Pg _ _ _ _ hle]at hj
       split at hj
       ·rename_i hjr
        obtain⟨u,f1,f2⟩:=ee _ _ hj;exact⟨u,gl hex (by omega) (by omega) (by rw[show R.co+j-(R.co+c)=j-c by omega];exact f1),f2.mono (fun _ _ hx=>hx) (fun _ _ hx=>hx) Aq⟩
       ·rename_i hjr
        obtain⟨u,f1,f2⟩:=e3 _ _ hj;exact⟨u,by rw[SH (by omega)];exact f1,f2.mono (fun _ _ hx=>hx) (fun _ _ hx=>hx) Aq⟩
     ·cases he
    ·rename_i sz rows g hb
     split at he
     ·rename_i row ts m da uv
      split at he
      ·rename_i hr
       obtain⟨hle,UH⟩:=hr;cases he;obtain⟨S1,Rb,EI,An,af1,aay⟩:=gk cs (a.eval y).cells.toList st.heap S ts m h (eF.refl _) (by omega) ee uv;have mO:look (eK st.heap m) b=some (.rows sz rows g false):=by
        have:∀(m:List (Nat×Option aC)) (h0:bM),(ids m).contains b=false->look (eK h0 m) b=look h0 b:=by
         intro m
         induction m with
         | nil=>intro h0 _;rfl
         | cons p m ih=>
          intro h0 hc;simp only[ids,List.map_cons,List.contains_cons,Bool.or_eq_false_iff]at hc;rw[iJ,ih _ (by simpa[ids]using hc.2),sZ (by simpa using hc.1)]
        rw[this m st.heap (by simpa using UH)];exact hb
       obtain⟨R',e1,⟨e2',e2,e3,e4,VG,e5,e6,e7⟩,e8,e9⟩:=EI.au b _ mO;rw[hR]at e1;cases e1;have yx:row.length=R.ai:=e2 row (List.mem_of_getElem? da);have af3:=uo da;have hmul:(r+1)*R.ai<=rows.length*R.ai:=Nat.mul_le_mul_right _ (by omega);rw[Nat.succ_mul]at hmul;have ads:rows.length*R.ai<=(if g then R.cap else rows.length)*R.ai:=Nat.mul_le_mul_right _ (by split<;>omega)
       have vC:there w R.cb (R.co+r*R.ai+c) ti.size:=fun o h1 h2=>e5 o (by omega) (by omega)
       have iR:∀j,j<(a.eval y).cells.toList.length->(aC.rows sz rows g false).wr R R.cb (R.co+r*R.ai+c+j):=fun j hj=>⟨rfl,by simp;omega,by omega⟩
       have hex:∀j,j<(a.eval y).cells.toList.length->(w.cell? ⟨R.cb,R.co+r*R.ai+c+j,none⟩).isSome=true:=fun j hj=>(vC _ (by omega) (by omega)).1
       have Aq:=EI.ek mO hR iR;have hlen:(rows.set r (aX row c ts)).length=rows.length:=by simp
       have fX:∀i j t,fg (rows.set r (aX row c ts)) i j=some t->(i=r/\c<=j/\j<c+ts.length/\ts[j-c]?=some t)∨(fg rows i j=some t/\¬(i=r/\c<=j/\j<c+ts.length)):=by
        intro i j t ht;obtain⟨af4,q1,q2,q3,q4⟩:=iS ht;rw[List.getElem?_set]at q1;split at q1
        ·rename_i hri
         subst hri;cases q1;rw[Pg _ _ _ _ hle]at q2;split at q2
         ·rename_i YF;exact .inl ⟨rfl,YF.1,YF.2,q2⟩
         ·rename_i YF;exact .inr ⟨GM da q2,fun hx=>YF hx.2⟩
        ·rename_i hri
         exact .inr ⟨GM q1 q2,fun hx=>hri hx.1.symm⟩
       refine⟨_,β,S1,undef,.skip,cZ _ vC eI,.inr ⟨rfl,rfl⟩,fun _ _=>rfl,?_,.af _⟩;rw[GX];refine EI.write mO hR _ _ iR (fun c o hy=>by rw[aC.ext,hlen]at hy;exact hy) (fun c o hy=>by rw[aC.wr,hlen]at hy;exact hy) ⟨e2',fun r' ym=>?_,by rw[hlen];exact e3,e4,by rw[hlen];exact VG,?_,fun i j t' ht=>?_,by simp⟩
       ·rcases List.mem_or_eq_of_mem_set ym with h1|h1
        ·exact e2 r' h1
        ·rw[h1,SA _ _ _ hle];exact yx
       ·rw[hlen];exact UG e5 hex
       ·rcases fX i j t' ht with⟨rfl,q1,q2,q3⟩|⟨q1,q2⟩
        ·obtain⟨u,f1,f2⟩:=aay _ _ q3
         exact⟨u,gl hex (by omega) (by omega) (by rw[show R.co+i*R.ai+j-(R.co+i*R.ai+c)=j-c by omega];exact f1),f2.mono (fun _ _ hx=>hx) Aq⟩
        ·obtain⟨u,f1,f2⟩:=e6 _ _ _ q1
         refine⟨u,?_,f2.mono (fun _ _ hx=>hx) Aq⟩;rw[SH]
         ·exact f1
         ·rintro⟨_,h3,h4⟩
          obtain⟨_,hj,_⟩:=g7 e2 q1;have hir:i=r:=by
           rcases Nat.lt_trichotomy i r with h5|h5|h5
           ·have:=Nat.mul_le_mul_right R.ai (show i+1<=r by omega)
            rw[Nat.succ_mul]at this;omega
           ·exact h5
           ·have:=Nat.mul_le_mul_right R.ai (show r+1<=i by omega)
            rw[Nat.succ_mul]at this;omega
          subst hir;exact q2 ⟨rfl,by omega,by omega⟩
      ·cases he
     ·cases he
    ·cases he
   ·cases he
  ·cases he
 ·cases he
end
section
variable {P:Program} {C:eh} {K:Ctx} {β:Nat->Option bR} {S:Place} {st:St} {a:Act} {w:World} {slot:Nat} {e:bW} {o:Oper}
theorem Sat.drawn (h:Sat K β S st a w) (d:Nat):Sat K β S st a { w with drawn:=d }:=by
 have hk:fh (fun _ _=>False) w { w with drawn:=d }:=⟨rfl,rfl,rfl,Nat.le_refl _,fun k ob hk=>by show fP _ k ob (w.heap[k]?);rw[hk];exact fP.refl _ _ _⟩;exact h.step (fun _=>False) hk (fun _ _ hx=>hx.elim) (fun _ _ hx=>hx) h.top (fun _ _ hx=>hx) (fun _ _ hx=>.inl hx) (fun _ _ _ hx=>hx) (fun _ _ hx=>hx.elim)
theorem aH.drawn {x:AV} {v:Value} (h:aH β S w x v) (d:Nat):aH β S { w with drawn:=d } x v:=h.mono (fun _ _ hx=>hx) (fun _ _ hx=>hx) (fun _ _ _=>rfl)
theorem Flat.mono {S S':Place} {w w':World} {rows:List (List Tree)} {size:Nat} {vs:List Value} (h:Flat S w rows size vs) (hS:∀b o,S b o->S' b o)
  (hw:∀b o,S b o->w'.cell? ⟨b,o,none⟩=w.cell? ⟨b,o,none⟩):Flat S' w' rows size vs:=
 ⟨h.1,fun i j t ht=>by obtain⟨v,e1,e2⟩:=h.2 i j t ht;exact⟨v,e1,e2.mono hS hw⟩⟩
theorem wv {α:Type} {r1 r2:List (List α)} {i j:Nat} {t:α} (h:fg (r1++r2) i j=some t):(i<r1.length/\fg r1 i j=some t)∨(r1.length<=i/\fg r2 (i-r1.length) j=some t):=by
 unfold fg at h ⊢;rw[List.getElem?_append]at h;split at h
 ·exact .inl ⟨by assumption,h⟩
 ·exact .inr ⟨by omega,h⟩
theorem Flat.append {S:Place} {w:World} {r1 r2:List (List Tree)} {size:Nat} {v1 v2:List Value} (h1:Flat S w r1 size v1) (h2:Flat S w r2 size v2) (iW:∀r∈r1,r.length=size):Flat S w (r1++r2) size (v1++v2):=by
 refine⟨by rw[List.length_append,List.length_append,h1.1,h2.1,Nat.add_mul],fun i j t ht=>?_⟩;rcases wv ht with⟨hi,ht⟩|⟨hi,ht⟩
 ·obtain⟨v,e1,e2⟩:=h1.2 i j t ht
  exact⟨v,by rw[List.getElem?_append,if_pos (uo e1)];exact e1,e2⟩
 ·obtain⟨v,e1,e2⟩:=h2.2 _ j t ht
  have:i*size=r1.length*size+(i-r1.length)*size:=by rw[<-Nat.add_mul];congr 1;omega
  refine⟨v,?_,e2⟩;rw[List.getElem?_append,if_neg (by rw[h1.1];omega),h1.1,show i*size+j-r1.length*size=(i-r1.length)*size+j by omega];exact e1
structure vD (P:Program) (argTypes:Array TypeId) (el:TypeId):Prop where
 t0:∃t,argTypes[0]?=some t/\P.underlying t=some (.slice el)
 t1:∃t,argTypes[1]?=some t/\((∃e',P.underlying t=some (.slice e'))∨P.underlying t=some .string)
theorem YG {argTypes:Array TypeId} {ty el:TypeId} {te:TI} (ha:vD P argTypes el) (dM:gV P el te) {base:Option Addr} {eX lk n:Nat} {xv:Value} {vs:List Value}
  (hlen:(Builtin.lenOf xv).run P w=.ok n w) (Cz:(Builtin.firstCells te.size n xv).run P w=.ok vs.toArray w) (kA:eX+n<=lk)
  {w':World} (dN:(match base with|some ad=>(storeCells (ad.add (eX*te.size)) vs).run P w|none=>.ok () w)=.ok () w') :
  (Builtin.append_ argTypes ty #[.slice base eX lk,xv]).run P w=.ok (.slice base (eX+n) lk) w':=by
 obtain⟨t,ht,hu⟩:=ha.t0;obtain⟨t1,yv,Hl⟩:=ha.t1;cases base with
 | none=>
  simp only at dN;cases dN;rcases Hl with⟨e',Hl⟩|Hl <;>
  simp[Builtin.append_,ht,yv,run_underlying hu,run_underlying Hl,Result.andThen,dM.sizeOf,hlen,Cz,kA]
 | some ad=>
  simp only at dN;rcases Hl with⟨e',Hl⟩|Hl <;>
  simp[Builtin.append_,ht,yv,run_underlying hu,run_underlying Hl,Result.andThen,dM.sizeOf,hlen,Cz,kA,dN]
theorem kD {argTypes : Array TypeId} {ty el : TypeId} {te : TI} (ha : vD P argTypes el) (dM : gV P el te) (hb : te.bytes≠0) {base : Option Addr} {eX lk n : Nat} {xv : Value}
    (hlen : (Builtin.lenOf xv).run P w = .ok n w) (Mk : lk<eX + n) (mH : (eX + n) * te.bytes <= 140737488355328) :
    ∃d lp, eX + n <= lp /\ lp<2^63 /\ ∀gB vs : List Value,
      ((Builtin.firstCells te.size eX (.slice base eX lk)).run P { w with drawn := d } = .ok gB.toArray { w with drawn := d } ->
       (Builtin.firstCells te.size n xv).run P { w with drawn := d } = .ok vs.toArray { w with drawn := d } ->
       ∃rest : Array Value, rest.size = (lp-(eX + n)) * te.size /\
        (Builtin.append_ argTypes ty #[.slice base eX lk, xv]).run P w = .ok (.slice (some ⟨w.heap.size, 0, none⟩) (eX + n) lp) { w with drawn := d, heap := w.heap.push (.cells (gB.toArray++vs.toArray++rest) el) }) := by
  obtain⟨t, ht, hu⟩ := ha.t0;obtain⟨t1, yv, Hl⟩ := ha.t1;obtain⟨i, i1, i2, i3⟩ := dM.typeInfo w;have hn : eX + n<2^63 := by
    have := Nat.mul_le_mul_left (eX + n) (show 1 <= te.bytes by omega);omega
  have UH := growslice_fits Mk mH
  let tape := w.tape w.drawn (.appendCap (eX + n) lk el)
  refine⟨w.drawn + 1, (eX + n) + tape%(2^63-(eX + n)), by omega, ?_, fun gB vs h1 h2=> ?_⟩
  · have := Nat.mod_lt tape (show 0<2^63-(eX + n) by omega)
    omega
  · obtain⟨z, z1, z2, _⟩ := dM.zeroValue { w with drawn := w.drawn + 1 } (fun _ _=> False)
    refine⟨Builtin.zeroCells z.cells ((eX + n) + tape%(2^63-(eX + n))-(eX + n)), by simp[Builtin.zeroCells, z2], ?_⟩;have hi : (typeInfo el).run P { w with drawn := w.drawn + 1 } = .ok i { w with drawn := w.drawn + 1 } := by
      obtain⟨i', j1, _⟩ := dM.info;simp only[Go.typeInfo, Sem.run_bind, run_program, Result.andThen, j1, Sem.run_pure]at i1 ⊢;cases i1;rfl
    have aaA : ¬((IntKind.i64.max<((eX + n : Nat) : Int)) /\ te.bytes = 0) := fun hx=> hb hx.2
    rcases Hl with⟨e', Hl⟩|Hl
    all_goals
      simp only[Builtin.append_, ht, yv, run_underlying hu, run_underlying Hl, Sem.run_bind, Sem.run_pure, Result.andThen, dM.sizeOf, hlen, List.getElem?_toArray, List.getElem?_cons_zero, List.getElem?_cons_succ, Bool.false_eq_true, if_false, Sem.run_ite];rw[if_neg (by omega)];simp only[i1, i2, Result.andThen, Sem.run_bind, Sem.run_pure, Sem.run_ite, false_or];rw[if_neg (by simpa using aaA), if_neg (by omega)]
      simp only[run_choose, Question.forced, Question.cut, Bool.false_eq_true, if_false, run_askRoom, hi, h1, h2, z1, newRow, run_newObj, Sem.run_bind, Sem.run_pure, Result.andThen, Bool.not_false, if_true];rfl
end
section
variable {P:Program} {C:eh} {K:Ctx} {β:Nat->Option bR} {S:Place} {st:St} {a:Act} {w:World} {slot:Nat} {e:bW} {o:Oper}
theorem Sat.kill (h:Sat K β S st a w) (b:Nat):Sat K β S ⟨st.tmps,st.heap.set b none⟩ a w:=by
 refine h.step (Wr:=fun _ _=>False) (fun b'=>b'=b) (fh.refl _ _) (fun _ _ hx=>hx.elim) (fun _ _ hx=>hx) (fun b' R' bK=>by simpa using h.top b' R' bK) (fun _ _ hx=>hx) (fun _ _ hx=>.inl hx) (fun b' au hD bK=>?_) (fun b' au hD bK=>?_)
 ·rw[sZ hD]at bK;exact bK
 ·subst hD
  have bG:=sW bK;rw[Ap (by simpa using bG)]at bK;cases bK
theorem Sat.grow (h:Sat K β S st a w) {b off sz:Nat} {rows new:List (List Tree)} {fz:Bool} {R:bR} (hb:look st.heap b=some (.rows sz rows true fz)) (hR:β b=some R) (hs:slot<st.heap.length) (hf:β slot=none)
  (aaB:off<=rows.length) (kA:rows.length+new.length<=R.cap) (dS:∀r∈new,r.length=sz) (hlen:rows.length-off+new.length<2^60) {vs:List Value} (Ct:Flat S w new sz vs) :
  ∃β' S',(∀b',b'≠slot->β' b'=β b')/\Sat K β' S' ⟨st.tmps,(st.heap.set b none).set slot (some (.rows sz (rows.drop off++new) true fz))⟩ a (w.setCells R.cb (R.co+rows.length*R.ai) vs) /\
   β' slot=some ⟨R.cb,R.co+off*R.ai,R.ai,R.cap-off⟩/\(∀c o,S c o->S' c o):=by
 have wk:b≠slot:=by rintro rfl;rw[hR]at hf;cases hf
 obtain⟨R0,I5,⟨h0,h1,h2,h3,Yt,h4,h5,h6⟩,hx,GV⟩:=h.au b _ hb;rw[hR]at I5;cases I5;subst h0;simp only[if_true]at h4
 let R':bR:=⟨R.cb,R.co+off*R.ai,R.ai,R.cap-off⟩
 let β':Nat->Option bR:=fun b'=>if b'=slot then some R' else β b'
 let S':Place:=fun c o=>S c o∨(fz=true/\c=R.cb/\R'.co<=o/\o<R'.co+(rows.drop off++new).length*R.ai)
 have Ao:∀c o,S c o->S' c o:=fun _ _ hx=>.inl hx
 have fD:(rows.drop off++new).length=rows.length-off+new.length:=by simp
 have YH:vs.length=new.length*R.ai:=Ct.1;have An:(rows.length+new.length)*R.ai<=R.cap*R.ai:=Nat.mul_le_mul_right _ kA;have af6:(rows.length+new.length)*R.ai=rows.length*R.ai+new.length*R.ai:=Nat.add_mul _ _ _;have J7:off*R.ai<=rows.length*R.ai:=Nat.mul_le_mul_right _ aaB;have hm3:(rows.drop off++new).length*R.ai+off*R.ai=rows.length*R.ai+new.length*R.ai:=by
  rw[<-Nat.add_mul,<-Nat.add_mul];congr 1;omega
 have hm4:(R.cap-off)*R.ai+off*R.ai=R.cap*R.ai:=by rw[<-Nat.add_mul];congr 1;omega
 have iR:∀j,j<vs.length->(aC.rows R.ai rows true fz).wr R R.cb (R.co+rows.length*R.ai+j):=fun j hj=>⟨rfl,by split<;>omega,by simp only[if_true];omega⟩
 have hex:∀j,j<vs.length->(w.cell? ⟨R.cb,R.co+rows.length*R.ai+j,none⟩).isSome=true:=fun j hj=>(h4 _ (by omega) (by omega)).1
 have Aq:=h.ek hb hR iR;have Kb:∀b' R1,β b'=some R1->β' b'=some R1:=fun b' R1 bK=>by
  have:b'≠slot:=by rintro rfl;rw[hf]at bK;cases bK
  simp only[β',if_neg this];exact bK
 have mW:∀b',b'≠slot->b'≠b->look ((st.heap.set b none).set slot (some (.rows R.ai (rows.drop off++new) true fz))) b'=look st.heap b':=fun b' e1 e2=>by
  rw[sZ e1,sZ e2]
 have wx:look ((st.heap.set b none).set slot (some (.rows R.ai (rows.drop off++new) true fz))) b=none:=by
  rw[sZ wk,Ap (sW hb)]
 have Hm:∀c o,(c=R.cb/\R.co+rows.length*R.ai<=o/\o<R.co+rows.length*R.ai+vs.length)->(aC.rows R.ai rows true fz).wr R c o:=by
  rintro c o ⟨rfl,e1,e2⟩
  have:=iR (o-(R.co+rows.length*R.ai)) (by omega);rwa[show R.co+rows.length*R.ai+(o-(R.co+rows.length*R.ai))=o by omega]at this
 refine⟨β',S',fun b' bK=>if_neg bK,?_,by simp[β',R'],Ao⟩;refine h.step (fun b'=>b'=b∨b'=slot) (iq R.cb vs _ w) (fun c o hc bG=>⟨GV c o (Hm c o hc),(hx c o (aC.fG (Hm c o hc))).2,fun b' au R1 hD bK LO hy=>?_⟩) Kb (fun b' R1 bK=>?_) Ao (fun c o sR=>?_) (fun b' au hD bK=>?_) (fun b' au hD bK=>?_)
 ·exact h.mz b b' _ au R R1 (fun e=>hD (.inl e.symm)) hb bK hR LO c o (aC.fG (Hm c o hc)) hy
 ·simp only[List.length_set]
  by_cases SI:b'=slot
  ·omega
  ·simp only[β',if_neg SI]at bK;exact h.top b' R1 bK
 ·rcases sR with sR|⟨_,rfl,e1,e2⟩
  ·exact .inl sR
  ·have VH:(aC.rows R.ai rows true fz).ext R R.cb o:=⟨rfl,by simp only[R']at e1;omega,by simp only[R',if_true]at e1 e2 ⊢;omega⟩
   refine .inr ⟨by rw[VF];exact(hx _ _ VH).1,(hx _ _ VH).2,fun b' au R1 hD bK LO hy=>?_⟩;exact h.mz b b' _ au R R1 (fun e=>hD (.inl e.symm)) hb bK hR LO _ o VH (aC.fG hy)
 ·rw[mW b' (fun e=>hD (.inr e)) (fun e=>hD (.inl e))]at bK;exact bK
 ·rcases hD with rfl|rfl
  ·rw[wx]at bK;cases bK
  ·rw[Ap (by simpa using hs)]at bK;cases bK
   have CE:∀c o,(aC.rows R.ai (rows.drop off++new) true fz).ext R' c o->(aC.rows R.ai rows true fz).ext R c o:=by
    rintro c o ⟨rfl,e1,e2⟩
    simp only[R',if_true]at e1 e2;exact⟨rfl,by omega,by simp only[if_true];omega⟩
   refine⟨R',by simp[β'],⟨rfl,fun r hr=>?_,by simp only[R'];omega,by simp only[R'];omega,by omega,?_,fun i j t ht=>?_,fun GW o e1 e2=>.inr ⟨GW,rfl,e1,e2⟩⟩,fun c o hy=>?_,fun c o hy sR=>?_,fun EH iI wm cY jc mG c o hy hz=>?_⟩
   ·rcases List.mem_append.1 hr with hr|hr
    ·exact h1 r (List.mem_of_mem_drop hr)
    ·exact dS r hr
   ·intro o e1 e2
    simp only[R',if_true]at e1 e2;exact UG h4 hex o (by omega) (by omega)
   ·rcases wv ht with⟨hi,ht⟩|⟨hi,ht⟩
    ·have mM:fg rows (off+i) j=some t:=by
      unfold fg at ht ⊢;rw[List.getElem?_drop]at ht;exact ht
     obtain⟨v,e1,e2⟩:=h5 _ _ _ mM;obtain⟨_,_,bG⟩:=g7 h1 mM;refine⟨v,?_,e2.mono Ao Aq⟩;rw[Nat.add_mul]at e1 bG;simp only[R'];rw[SH (by omega),show R.co+off*R.ai+i*R.ai+j=R.co+(off*R.ai+i*R.ai)+j by omega];exact e1
    ·obtain⟨v,e1,e2⟩:=Ct.2 _ _ _ ht
     obtain⟨_,_,bG⟩:=g7 dS ht;refine⟨v,?_,e2.mono Ao Aq⟩;rw[List.length_drop]at hi e1 bG;have hii:i*R.ai+off*R.ai=rows.length*R.ai+(i-(rows.length-off))*R.ai:=by
      rw[<-Nat.add_mul,<-Nat.add_mul];congr 1;omega
     simp only[R'];rw[gl hex (by omega) (by omega) (v:=v)];rw[show R.co+off*R.ai+i*R.ai+j-(R.co+rows.length*R.ai)=(i-(rows.length-off))*R.ai+j by omega];exact e1
   ·rw[VF];exact hx c o (CE c o hy)
   ·obtain⟨rfl,e1,e2⟩:=hy
    simp only[R',if_true]at e1 e2;rcases sR with sR|⟨e3,_,_,e5⟩
    ·refine GV _ o ⟨rfl,?_,by simp only[if_true];omega⟩ sR
     cases fz
     ·simp at e1 ⊢;omega
     ·simp only[if_true]at e1 ⊢;omega
    ·rw[if_pos e3]at e1
     simp only[R']at e5;omega
   ·by_cases CA:EH=b
    ·subst CA;rw[wx]at jc;cases jc
    ·rw[mW EH cY CA]at jc
     have Rd:β EH=some wm:=by simp only[β',if_neg cY]at mG;exact mG
     exact h.mz b EH _ iI R wm (Ne.symm CA) hb jc hR Rd c o (CE c o hy) hz
end
section
variable {P:Program} {C:eh} {K:Ctx} {β:Nat->Option bR} {S:Place} {st:St} {a:Act} {w:World} {slot:Nat} {e:bW} {o:Oper}
theorem Sat.wy (h:Sat K β S st a w) (hs:slot<st.heap.length) (hf:β slot=none) {w':World} {cells:Array Value} {el:TypeId} {cs:List Cell}
  (hh:w'.heap=w.heap.push (.cells cells el (0,0))) (Mh:w'.os=w.os) (wj:w'.tape=w.tape) (Hj:w'.output=w.output) (hl:cs.length<=cells.size) (Hk:cells.size<2^63)
  (hc:∀(j:Nat) (c:Cell),cs[j]?=some c->∃v,cells[j]?=some v/\dq β S w c v) :
  ∃β',(∀b,b≠slot->β' b=β b)/\Sat K β' S ⟨st.tmps,st.heap.set slot (some (.var cs))⟩ a w'/\aH β' S w' (.c (.sl slot 0 cs.length false)) (.slice (some ⟨w.heap.size,0,none⟩) cs.length cells.size):=by
 let R:bR:=⟨w.heap.size,0,1,cells.size⟩
 have I3:∀c v,dq β S w c v->dq (fun b=>if b=slot then some R else β b) S w' c v:=fun c v hr=>
  hr.mono (fun b R' hb=>by rw[if_neg (by rintro rfl;rw[hf]at hb;cases hb)];exact hb) (fun _ _ hx=>hx) (fun b o hb=>wq hh (h.sN b o hb) o)
 refine⟨fun b=>if b=slot then some R else β b,fun b hb=>if_neg hb,?_,?_⟩
 ·refine h.new hs hf (R:=R) hh Mh wj Hj rfl (fun _ _ hx=>hx) (fun _ _ hx=>.inl hx) ⟨⟨fun o h1 h2=>?_,rfl,Hk⟩,fun j c hj=>?_⟩ fun c o hx hy=>?_
  ·obtain⟨e1,e2⟩:=jn hh o
   refine⟨?_,e2⟩;rw[e1,Array.getElem?_eq_getElem (by have I4:o<0+max cs.length cells.size:=h2;omega)];rfl
  ·obtain⟨v,e1,e2⟩:=hc j c hj
   refine⟨v,?_,I3 c v e2⟩;rw[show R.co+j=j from Nat.zero_add j,(jn hh j).1,e1]
  ·have e1:c=w.heap.size:=hx.1
   have:=h.sN c o hy;omega
 ·exact .c (.sl R _ cells.size (by simp) (by simp) (by simp[R]) hl (by simp[R]) fun _=>by simp[R])
theorem Sat.Kg (h:Sat K β S st a w) {b:Nat} {cs ns:List Cell} {R:bR} (hb:look st.heap b=some (.var cs)) (hR:β b=some R) (hs:slot<st.heap.length) (hf:β slot=none)
  (kA:cs.length+ns.length<=R.cap) {vs:List Value} (YH:vs.length=ns.length) (hv:∀(j:Nat) (c:Cell),ns[j]?=some c->∃v,vs[j]?=some v/\dq β S w c v) :
  ∃β',(∀b',b'≠slot->β' b'=β b')/\Sat K β' S ⟨st.tmps,(st.heap.set b none).set slot (some (.var (cs++ns)))⟩ a (w.setCells R.cb (R.co+cs.length) vs)/\β' slot=some R:=by
 have wk:b≠slot:=by rintro rfl;rw[hR]at hf;cases hf
 obtain⟨R0,I5,⟨⟨h0,h1,h2⟩,h3⟩,hx,GV⟩:=h.au b _ hb;rw[hR]at I5;cases I5
 let β':Nat->Option bR:=fun b'=>if b'=slot then some R else β b'
 have fD:(cs++ns).length=cs.length+ns.length:=by simp
 have CE:∀c o,(aC.var (cs++ns)).ext R c o->(aC.var cs).ext R c o:=by
  rintro c o ⟨rfl,e1,e2⟩
  have e2:o<R.co+max (cs++ns).length R.cap:=e2;rw[fD]at e2;exact⟨rfl,e1,by show o<R.co+max cs.length R.cap;omega⟩
 have iR:∀j,j<vs.length->(aC.var cs).wr R R.cb (R.co+cs.length+j):=fun j hj=>⟨rfl,by omega,by show R.co+cs.length+j<R.co+max cs.length R.cap;omega⟩
 have hex:∀j,j<vs.length->(w.cell? ⟨R.cb,R.co+cs.length+j,none⟩).isSome=true:=fun j hj=>(h0 _ (by omega) (by omega)).1
 have Aq:=h.ek hb hR iR;have Kb:∀b' R1,β b'=some R1->β' b'=some R1:=fun b' R1 bK=>by
  have:b'≠slot:=by rintro rfl;rw[hf]at bK;cases bK
  simp only[β',if_neg this];exact bK
 have mW:∀b',b'≠slot->b'≠b->look ((st.heap.set b none).set slot (some (.var (cs++ns)))) b'=look st.heap b':=fun b' e1 e2=>by
  rw[sZ e1,sZ e2]
 have wx:look ((st.heap.set b none).set slot (some (.var (cs++ns)))) b=none:=by
  rw[sZ wk,Ap (sW hb)]
 have Hm:∀c o,(c=R.cb/\R.co+cs.length<=o/\o<R.co+cs.length+vs.length)->(aC.var cs).wr R c o:=by
  rintro c o ⟨rfl,e1,e2⟩
  have:=iR (o-(R.co+cs.length)) (by omega);rwa[show R.co+cs.length+(o-(R.co+cs.length))=o by omega]at this
 refine⟨β',fun b' bK=>if_neg bK,?_,by simp[β']⟩;refine h.step (fun b'=>b'=b∨b'=slot) (iq R.cb vs _ w) (fun c o hc bG=>⟨GV c o (Hm c o hc),(hx c o (aC.fG (Hm c o hc))).2,fun b' au R1 hD bK LO hy=>?_⟩) Kb (fun b' R1 bK=>?_) (fun _ _ hx=>hx) (fun _ _ hx=>.inl hx) (fun b' au hD bK=>?_) (fun b' au hD bK=>?_)
 ·exact h.mz b b' _ au R R1 (fun e=>hD (.inl e.symm)) hb bK hR LO c o (aC.fG (Hm c o hc)) hy
 ·simp only[List.length_set]
  by_cases SI:b'=slot
  ·omega
  ·simp only[β',if_neg SI]at bK;exact h.top b' R1 bK
 ·rw[mW b' (fun e=>hD (.inr e)) (fun e=>hD (.inl e))]at bK;exact bK
 ·rcases hD with rfl|rfl
  ·rw[wx]at bK;cases bK
  ·rw[Ap (by simpa using hs)]at bK;cases bK
   refine⟨R,by simp[β'],⟨⟨fun o e1 e2=>?_,h1,h2⟩,fun j c hj=>?_⟩,fun c o hy=>?_,fun c o hy sR=>?_,fun EH iI wm cY jc mG c o hy hz=>?_⟩
   ·rw[fD]at e2
    exact UG h0 hex o (by omega) (by omega)
   ·rw[List.getElem?_append]at hj
    split at hj
    ·obtain⟨v,e1,e2⟩:=h3 j c hj
     exact⟨v,by rw[SH (by omega)];exact e1,e2.mono Kb (fun _ _ hx=>hx) Aq⟩
    ·obtain⟨v,e1,e2⟩:=hv _ c hj
     have bG:=uo e1;exact⟨v,by rw[gl hex (by omega) (by omega) (v:=v)];rw[show R.co+j-(R.co+cs.length)=j-cs.length by omega];exact e1,e2.mono Kb (fun _ _ hx=>hx) Aq⟩
   ·rw[VF];exact hx c o (CE c o hy)
   ·exact GV c o (CE c o hy) sR
   ·by_cases CA:EH=b
    ·subst CA;rw[wx]at jc;cases jc
    ·rw[mW EH cY CA]at jc
     have Rd:β EH=some wm:=by simp only[β',if_neg cY]at mG;exact mG
     exact h.mz b EH _ iI R wm (Ne.symm CA) hb jc hR Rd c o (CE c o hy) hz
theorem pM {w:World} {cb co:Nat}:∀(ns:List Cell) (i:Nat),(∀(j:Nat) (c:Cell),ns[j]?=some c->∃v,w.cell? ⟨cb,co+(i+j),none⟩=some v/\dq β S w c v) ->
  ∃vs:List Value,vs.length=ns.length/\∀(j:Nat) (c:Cell),ns[j]?=some c->∃v,vs[j]?=some v/\w.cell? ⟨cb,co+(i+j),none⟩=some v/\dq β S w c v
 | [],i,_=>⟨[],rfl,fun j c h=>by simp at h⟩
 | n::ns,i,h=>by
  obtain⟨v,h1,h2⟩:=h 0 n rfl;obtain⟨vs,e1,e2⟩:=pM ns (i+1) fun j c hj=>by
   rw[show co+(i+1+j)=co+(i+(j+1)) by omega];exact h (j+1) c hj
  refine⟨v::vs,by simp[e1],fun j c hj=>?_⟩;cases j with
  | zero=>simp at hj;subst hj;exact⟨v,rfl,h1,h2⟩
  | succ j=>
   obtain⟨u,q1,q2,q3⟩:=e2 j c (by simpa using hj);exact⟨u,by simpa using q1,by rw[show co+(i+(j+1))=co+(i+1+j) by omega];exact q2,q3⟩
theorem ux {ti:TI} {slot:Nat} {h:Hp} {s x:AV} {e:bW} (he:j9 ti slot h s x=some e):rowsOf h x=none:=by
 unfold j9 at he;split at he
 ·rename_i b off len b' L7 L8 GR
  split at he
  ·rename_i cs ns hb bK
   simp[rowsOf,bK]
  ·cases he
 ·cases he
theorem SJ (hC:bq P C) (h:Sat K β S st a w) (hs:slot<st.heap.length) (hf:β slot=none) {args:Array Operand} {argTypes:Array TypeId} {el:TypeId} {te:TI} {s x:Operand}
  (ho:o.op=.call { callee:=.builtin .append,args,argTypes }) (dG:args.toList=[s,x]) (Re:vD P argTypes el) (du:C.ty el=some te) (hb:te.bytes≠0)
  (he:j9 te slot (look st.heap) (st.get s) (st.get x)=some e):oN P K β S st a w slot o e:=by
 have dM:=iV (hC _ te du);have LQ:args=#[s,x]:=by rw[<-Array.toArray_toList (xs:=args),dG]
 subst LQ;have uy:=h.get s;have Ml:=h.get x;have cZ:∀v w',(Builtin.append_ argTypes o.type #[a.eval s,a.eval x]).run P w=.ok v w'->(execOp a.eval o).run P w=.ok (.value v) w':=by
  intro v w' hv;simp only[execOp,ho,resolve,invoke,builtin,Sem.run_bind,Sem.run_pure,Result.andThen,List.map_toArray,List.map_cons,List.map_nil,hv]
 unfold j9 at he;split at he
 ·rename_i b off len b' L7 L8 GR hg hg'
  split at he
  ·rename_i cs ns gT aaC
   split at he
   ·rename_i Ar
    obtain⟨rfl,rfl,rfl,rfl,mT,dS,mH⟩:=Ar;cases he;rw[hg]at uy;rw[hg']at Ml;cases uy with|c uy=>
    cases Ml with|c Ml=>
    generalize eI:a.eval s=av at uy;generalize YB:a.eval x=ax at Ml;cases uy with|sl R base cap hR h1 h2 h3 h4 h5=>
    cases Ml with|sl R2 I6 Pm qK g1 g2 g3 g4 g5=>
    have Mm:=h2 rfl;rw[Nat.zero_add]at Mm;obtain⟨R0,q1,⟨⟨q2,q3,q4⟩,q5⟩,q6,q7⟩:=h.au b _ gT;rw[hR]at q1;cases q1;obtain⟨R0,p1,⟨⟨p2,p3,p4⟩,p5⟩,p6,p7⟩:=h.au b' _ aaC;rw[qK]at p1;cases p1;have SK:=g5 (by omega);obtain⟨nv,n1,n2⟩:=pM (β:=β) (S:=S) (cb:=R2.cb) (co:=R2.co) ns 0 fun j c hj=>by rw[Nat.zero_add];exact p5 j c hj
    obtain⟨ov,o1,o2⟩:=pM (β:=β) (S:=S) (cb:=R.cb) (co:=R.co) cs 0 fun j c hj=>by rw[Nat.zero_add];exact q5 j c hj
    have hld:∀d,(Builtin.firstCells te.size ns.length (.slice I6 ns.length Pm)).run P { w with drawn:=d }=.ok nv.toArray { w with drawn:=d }:=fun d=>by
     rw[SK];have:=run_loadCells_list (P:=P) { w with drawn:=d } ⟨R2.cb,R2.co+0*R2.ai,none⟩ nv fun j v hj=>by
      have bG:=uo hj;obtain⟨u,k1,k2,_⟩:=n2 j (ns[j]'(by omega)) (List.getElem?_eq_getElem (by omega));rw[hj]at k1;cases k1;rw[I0,Nat.zero_mul,Nat.add_zero];rw[Nat.zero_add]at k2;exact k2
     rw[n1]at this;simpa[Builtin.firstCells,dS]using this
    have aaD:∀d,(Builtin.firstCells te.size cs.length (.slice base cs.length cap)).run P { w with drawn:=d }=.ok ov.toArray { w with drawn:=d }:=fun d=>by
     rcases Nat.eq_zero_or_pos cs.length with h0|h0
     ·have:ov=[]:=List.eq_nil_of_length_eq_zero (by omega)
      subst this;rw[h0];cases base<;>simp[Builtin.firstCells,loadCells,loadCellsFrom]
     ·rw[h5 (by omega)]
      have:=run_loadCells_list (P:=P) { w with drawn:=d } ⟨R.cb,R.co+0*R.ai,none⟩ ov fun j v hj=>by
       have bG:=uo hj;obtain⟨u,k1,k2,_⟩:=o2 j (cs[j]'(by omega)) (List.getElem?_eq_getElem (by omega));rw[hj]at k1;cases k1;rw[I0,Nat.zero_mul,Nat.add_zero];rw[Nat.zero_add]at k2;exact k2
      rw[o1]at this;simpa[Builtin.firstCells,dS]using this
    have hlen:(Builtin.lenOf (.slice I6 ns.length Pm)).run P w=.ok ns.length w:=by simp[Builtin.lenOf]
    have mO:(cs.length+ns.length)*1<=(cs.length+ns.length)*te.bytes:=Nat.mul_le_mul_left _ (by omega);unfold az at mH
    by_cases kA:cs.length+ns.length<=cap
    ·obtain⟨β',f1,f2,f3⟩:=h.Kg (ns:=ns) (vs:=nv) gT hR hs hf (by omega) n1 fun j c hj=>by
      obtain⟨u,k1,_,k3⟩:=n2 j c hj;exact⟨u,k1,k3⟩
     have dN:(storeCells ⟨R.cb,R.co+cs.length,none⟩ nv).run P w=.ok () (w.setCells R.cb (R.co+cs.length) nv):=by
      have:=run_storeCells_cells (P:=P) R.cb (R.co+cs.length) nv 0 w (fun j hj=>(q2 _ (by omega) (by omega)).1) (fun j hj=>(q2 _ (by omega) (by omega)).2) (fun u hu=>by
       obtain⟨k,hk⟩:=List.getElem?_of_mem hu;have ta:=uo hk;obtain⟨u',k1,_,k3⟩:=n2 k (ns[k]'(by omega)) (List.getElem?_eq_getElem (by omega));rw[hk]at k1;cases k1;exact iF k3.one)
      simpa using this
     have As:=h5 (by omega);have EL:(⟨R.cb,R.co+0*R.ai,none⟩:Addr).add (cs.length*te.size)=⟨R.cb,R.co+cs.length,none⟩:=by
      rw[I0,Nat.zero_mul,Nat.add_zero,dS,Nat.mul_one]
     have:=YG (P:=P) (w:=w) (ty:=o.type) Re dM (base:=base) (eX:=cs.length) (lk:=cap) (xv:=.slice I6 ns.length Pm) (n:=ns.length) (vs:=nv) hlen (hld w.drawn) kA (w':=w.setCells R.cb (R.co+cs.length) nv) (by rw[As];simp only[EL];exact dN);rw[<-eI,<-YB]at this;exact⟨_,β',S,_,_,cZ _ _ this,.inl rfl,f1,f2,.c (.sl R base cap f3 (by simp) (fun _=>by omega) kA (by omega) h5)⟩
    ·obtain⟨d,lp,c1,c2,c3⟩:=kD (P:=P) (w:=w) (ty:=o.type) Re dM hb (base:=base) (eX:=cs.length) (lk:=cap) (xv:=.slice I6 ns.length Pm) (n:=ns.length) hlen (by omega) (by omega)
     obtain⟨rest,r1,r2⟩:=c3 ov nv (aaD d) (hld d);have pF:(ov.toArray++nv.toArray++rest).size=lp:=by
      simp only[Array.size_append,List.size_toArray,r1,dS,Nat.mul_one];omega
     obtain⟨β',f1,f2,f3⟩:=(h.kill b).wy (slot:=slot) (by simpa using hs) hf (w':={ w with drawn:=d,heap:=w.heap.push (.cells (ov.toArray++nv.toArray++rest) el) }) (cells:=ov.toArray++nv.toArray++rest) (el:=el) (cs:=cs++ns) rfl rfl rfl rfl (by rw[pF];simp;omega) (by omega) fun j c hj=>by
      have bG:=uo hj;simp only[List.length_append]at bG;rw[List.getElem?_append]at hj;have e1:(ov.toArray++nv.toArray++rest)[j]?=(ov++nv)[j]?:=by
       rw[Array.getElem?_append_left (by simp;omega)];simp
      rw[e1,List.getElem?_append];split at hj
      ·obtain⟨u,k1,_,k3⟩:=o2 j c hj
       rw[if_pos (by omega)];exact⟨u,k1,k3⟩
      ·obtain⟨u,k1,_,k3⟩:=n2 _ c hj
       rw[if_neg (by omega),o1];exact⟨u,k1,k3⟩
     rw[pF]at f3;simp only[List.length_append]at f3;rw[<-eI,<-YB]at r2;exact⟨_,β',S,_,_,cZ _ _ r2,.inl rfl,f1,f2,f3⟩
   ·cases he
  ·cases he
 ·cases he
end
section
variable {P:Program} {C:eh} {K:Ctx} {β:Nat->Option bR} {S:Place} {st:St} {a:Act} {w:World} {slot:Nat} {e:bW} {o:Oper}
theorem wz {rows:List (List Tree)} {n:Nat} (h:(rows.all fun r=>r.length==n)=true):∀r∈rows,r.length=n:=fun r hr=>by simpa using List.all_eq_true.1 h r hr
theorem Hn {x:AV} {v:Value} (hx:aH β S w x v) (h:Ha x=true):∃base len cap,v=.slice base len cap/\len<=cap:=by
 unfold Ha at h;split at h
 ·cases hx with|c hx=>cases hx with|t hx=>cases hx with|aa _ _ _ _ _ _ _ _ h1=>exact⟨_,_,_,rfl,h1⟩
 ·cases hx with|c hx=>cases hx with|sl _ _ _ _ _ _ h3=>exact⟨_,_,_,rfl,h3⟩
 ·cases h
theorem Flat.head {rows:List (List Tree)} {size:Nat} {vs rest:List Value} (h:Flat S w rows size vs):Flat S w rows size ((vs++rest).take (rows.length*size)):=by
 rw[<-h.1,List.take_left];exact h
theorem eA.Mn {B:Nat} {R:bR} {sz:Nat} {rows:List (List Tree)} {g:Bool} (h:eA β S w B R (.rows sz rows g true)):dR S w (.aa false rows) (.slice (some ⟨R.cb,R.co,none⟩) rows.length R.cap):=by
 obtain⟨q0,q1,q2,q3,SF,q4,q5,q6⟩:=h;have:∃val:Nat->Nat->Value,∀i j t,fg rows i j=some t->w.cell? ⟨R.cb,R.co+i*R.ai+j,none⟩=some (val i j)/\dR S w t (val i j):=by
  have:∀i j,∃v,∀t,fg rows i j=some t->w.cell? ⟨R.cb,R.co+i*R.ai+j,none⟩=some v/\dR S w t v:=by
   intro i j;cases ht:fg rows i j with
   | none=>exact⟨undef,by simp⟩
   | some t=>
    obtain⟨v,a1,a2⟩:=q5 _ _ _ ht;exact⟨v,fun t' mM=>by cases mM;exact⟨a1,a2⟩⟩
  exact⟨fun i j=>(this i j).choose,fun i j t ht=>(this i j).choose_spec t ht⟩
 obtain⟨val,pK⟩:=this;refine .aa false rows _ R.cb R.co R.ai R.cap val q2 q3 (by omega) (by simp) (fun _=>rfl) (by simp) q1 (fun i j t ht=>?_) (fun i j t ht=>(pK i j t ht).2);obtain⟨_,_,bG⟩:=g7 q1 ht;exact⟨q6 rfl _ (by omega) (by omega),(pK i j t ht).1⟩
theorem Sat.SL (h:Sat K β S st a w) {b sz:Nat} {rows:List (List Tree)} {R:bR} (bG:b<st.heap.length) (hR:β b=some R) (iU:eA β S w K.B0 R (.gB sz rows)):Sat K β S ⟨st.tmps,st.heap.set b (some (.gB sz rows))⟩ a w:=by
 refine h.step (Wr:=fun _ _=>False) (fun b'=>b'=b) (fh.refl _ _) (fun _ _ hx=>hx.elim) (fun _ _ hx=>hx) (fun b' R' bK=>by simpa using h.top b' R' bK) (fun _ _ hx=>hx) (fun _ _ hx=>.inl hx) (fun b' au hD bK=>?_) (fun b' au hD bK=>?_)
 ·rw[sZ hD]at bK;exact bK
 ·subst hD
  rw[Ap bG]at bK;cases bK;exact⟨R,hR,iU,fun c o hx=>hx.2.elim,fun c o hx=>hx.2.elim,fun _ _ _ _ _ _ c o hx=>hx.2.elim⟩
theorem Sat.leave {hp:bM} {tm:List AV} {b sz:Nat} {rows:List (List Tree)} {fz:Bool} {x:Option aC} {R:bR} (h:Sat K β S ⟨tm,(hp.set b none).set slot x⟩ a w) (wk:b≠slot) (bG:b<hp.length) (hR:β b=some R)
  (iU:fz=true->eA β S w K.B0 R (.gB sz rows)):Sat K β S ⟨tm,(hp.set b (Ev sz rows fz)).set slot x⟩ a w:=by
 cases fz with
 | false=>exact h
 | true=>
  have:=h.SL (b:=b) (by simpa using bG) hR (iU rfl);have e:((hp.set b none).set slot x).set b (some (.gB sz rows))=(hp.set b (Ev sz rows true)).set slot x:=by
   rw[List.set_comm _ _ (Ne.symm wk),List.set_set];rfl
  rw[e]at this;exact this
theorem EM (hC:bq P C) (h:Sat K β S st a w) (hs:slot<st.heap.length) (hf:β slot=none) {args:Array Operand} {argTypes:Array TypeId} {el:TypeId} {te:TI} {s x:Operand}
  (ho:o.op=.call { callee:=.builtin .append,args,argTypes }) (dG:args.toList=[s,x]) (Re:vD P argTypes el) (du:C.ty el=some te) (hb:te.bytes≠0)
  (he:bU te slot (look st.heap) (st.get s) (st.get x)=some e):oN P K β S st a w slot o e:=by
 have dM:=iV (hC _ te du);have LQ:args=#[s,x]:=by rw[<-Array.toArray_toList (xs:=args),dG]
 subst LQ;have uy:=h.get s;have Ml:=h.get x;have cZ:∀v w',(Builtin.append_ argTypes o.type #[a.eval s,a.eval x]).run P w=.ok v w'->(execOp a.eval o).run P w=.ok (.value v) w':=by
  intro v w' hv;simp only[execOp,ho,resolve,invoke,builtin,Sem.run_bind,Sem.run_pure,Result.andThen,List.map_toArray,List.map_cons,List.map_nil,hv]
 unfold bU at he;split at he
 ·exact SJ hC h hs hf ho dG Re du hb he
 ·rename_i new oM jH
  split at he
  ·rename_i J4
   split at he
   ·rename_i Sz
    cases he;obtain⟨base,len,cap,VI,hle⟩:=Hn uy Sz;have aaE:new=[]:=List.eq_nil_of_length_eq_zero J4;subst aaE;obtain⟨h1,h2⟩:=g8 (P:=P) h Ml jH (size:=te.size) (by simp);obtain⟨vs,h3,h4,_⟩:=h2 0 (by simp);have Pb:vs=[]:=List.eq_nil_of_length_eq_zero (by simpa using h4);subst Pb;have:=YG (P:=P) (w:=w) (ty:=o.type) Re dM (base:=base) (eX:=len) (lk:=cap) (xv:=a.eval x) (n:=0) (vs:=[]) (by simpa using h1) h3 (by omega) (w':=w) (by cases base<;>simp[storeCells])
    rw[<-VI]at this;refine⟨w,β,S,a.eval s,_,cZ _ _ this,.inl (by rw[VI];simp),fun _ _=>rfl,h,?_⟩;exact uy
   ·cases he
  ·rename_i J4
   split at he
   ·cases he
   ·rename_i jr
    have Mo:∀r∈new,r.length=te.size:=wz (by simpa using jr);obtain⟨kv,ee⟩:=g8 (P:=P) h Ml jH Mo;have Mp:∀(base:Option Addr) (eX lk:Nat) (gB:List (List Tree)) (rd:List Nat) (fz:Bool) (heap:bM),a.eval s=.slice base eX lk->rowsOf (look st.heap) (st.get s)=some (gB,rd)->gB.length=eX ->
      (∀r∈gB,r.length=te.size)->lk<eX+new.length->(eX+new.length)*te.bytes<=az->Sat K β S ⟨st.tmps,heap⟩ a w->slot<heap.length ->
      ∃w' β' S' v,(Builtin.append_ argTypes o.type #[a.eval s,a.eval x]).run P w=.ok v w'/\(∀b,b≠slot->β' b=β b)/\Sat K β' S' ⟨st.tmps,heap.set slot (some (.rows te.size (gB++new) true fz))⟩ a w'/\aH β' S' w' (.c (.sl slot 0 (eX+new.length) false)) v/\(∀x v,aH β S w x v->aH β' S' w' x v):=by
     intro base eX lk gB rd fz heap VI hold hol Mh Mk mH kC bG;have mO:(eX+new.length)*1<=(eX+new.length)*te.bytes:=Nat.mul_le_mul_left _ (by omega);unfold az at mH;obtain⟨d,lp,c1,c2,c3⟩:=kD (P:=P) (w:=w) (ty:=o.type) Re dM hb (base:=base) (eX:=eX) (lk:=lk) (xv:=a.eval x) (n:=new.length) kv Mk (by omega);obtain⟨ov,o1,o2⟩:=(g8 (P:=P) (h.drawn d) (uy.drawn d) hold Mh).2 gB.length (Nat.le_refl _)
     obtain⟨nv,n1,n2⟩:=(g8 (P:=P) (h.drawn d) (Ml.drawn d) jH Mo).2 new.length (Nat.le_refl _);rw[List.take_length]at o2 n2;rw[hol,VI]at o1;obtain⟨rest,r1,r2⟩:=c3 ov nv o1 n1;rw[<-VI]at r2;have Ct:Flat S w (gB++new) te.size (ov++nv):=(o2.append n2 Mh).mono (fun _ _ hx=>hx) fun _ _ _=>rfl
     have dS:∀r∈gB++new,r.length=te.size:=by
      intro r hr;rcases List.mem_append.1 hr with hr|hr
      ·exact Mh r hr
      ·exact Mo r hr
     have hl:(gB++new).length=eX+new.length:=by simp[hol]
     have pF:(ov.toArray++nv.toArray++rest).size=lp*te.size:=by
      have e1:=Ct.1;rw[hl,List.length_append]at e1;simp only[Array.size_append,List.size_toArray,r1];rw[e1,<-Nat.add_mul];congr 1;omega
     obtain⟨β',S',e1,e2,e3,e4⟩:=kC.Cy (slot:=slot) bG hf (w':={ w with drawn:=d,heap:=w.heap.push (.cells (ov.toArray++nv.toArray++rest) el) }) (el:=el) (rows:=gB++new) (size:=te.size) (cap:=lp) (g:=true) (fz:=fz) rfl rfl rfl rfl dS (by omega) c2 (by omega) pF (by
      have:(ov.toArray++nv.toArray++rest).toList=(ov++nv)++rest.toList:=by simp
      rw[this];exact Ct.head)
     rw[hl]at e3;exact⟨_,β',S',_,r2,e1,e2,e3,e4⟩
    split at he
    ·rename_i rows hg
     split at he
     ·rename_i hr
      simp only[Bool.and_eq_true,decide_eq_true_eq]at hr;cases he;rw[hg]at uy;have aaF:=uy;cases uy with|c uy=>
      cases uy with|t uy=>
      generalize eI:a.eval s=av at uy;cases uy with|aa _ _ base cb co ai cap val h1 h2 h3 h4 h5 Q4 h6 h7 h8=>
      obtain⟨w',β',S',v,g1,g2,g3,g4,_⟩:=Mp base rows.length cap rows [] false st.heap eI (by rw[hg];rfl) rfl (wz hr.1) (by have:=h4 rfl;omega) hr.2 h hs;exact⟨w',β',S',v,_,cZ _ _ g1,.inl rfl,g2,g3,g4⟩
     ·cases he
    ·rename_i b off len cp hg
     rw[hg]at uy;have aaF:=uy;cases uy with|c uy=>
     generalize eI:a.eval s=av at uy;cases uy with|sl R base cap hR h1 h2 h3 h4 h5=>
     split at he
     ·rename_i sz rows g fz gT
      split at he
      ·cases he
      ·rename_i Ar
       simp only[Decidable.not_not]at Ar;obtain⟨rfl,mH,hle⟩:=Ar;obtain⟨R',e1,⟨q0,q1,q2,q3,SF,q4,q5,q6⟩,e4,e5⟩:=h.au b _ gT;rw[hR]at e1;cases e1;have J8:((rows.drop off).take len).length=len:=by rw[List.length_take,List.length_drop];omega
       have VJ:rowsOf (look st.heap) (st.get s)=some ((rows.drop off).take len,[b]):=by
        rw[hg];simp[rowsOf,gT,hle]
       have pF:∀r∈(rows.drop off).take len,r.length=te.size:=fun r hr=>by rw[q0];exact q1 r (qU hr)
       split at he
       ·rename_i yt
        cases he;obtain⟨w',β',S',v,g1,g2,g3,g4,_⟩:=Mp base len cap _ [b] false st.heap eI VJ J8 pF (by have:=h1 yt;omega) mH h hs;exact⟨w',β',S',v,_,cZ _ _ g1,.inl rfl,g2,g3,g4⟩
       ·rename_i yt
        have aaG:cp=false:=by simpa using yt
        have Mm:=h2 aaG;split at he
        ·rename_i eL
         have VK:(rows.drop off).take len=rows.drop off:=by rw[List.take_of_length_le];simp;omega
         split at he
         ·rename_i hgr
          cases he;subst hgr;have LL:=h.kill b;have wk:b≠slot:=by rintro rfl;rw[hR]at hf;cases hf
          have Au:fz=true->dR S w (.aa false rows) (.slice (some ⟨R.cb,R.co,none⟩) rows.length R.cap):=fun GW=>by
           subst GW;exact eA.Mn (β:=β) (B:=K.B0) (sz:=te.size) (g:=true) ⟨q0,q1,q2,q3,SF,q4,q5,q6⟩
          by_cases kA:len+new.length<=cap
          ·obtain⟨nv,n1,n2⟩:=ee new.length (Nat.le_refl _)
           rw[List.take_length]at n2;have mT:0<new.length:=by omega
           have As:=h5 (by omega);have mO:(len+new.length)*1<=(len+new.length)*te.bytes:=Nat.mul_le_mul_left _ (by omega);unfold az at mH;obtain⟨β',S',g1,g2,g3,g4⟩:=h.grow (new:=new) (off:=off) gT hR hs hf (by omega) (by omega) Mo (by
            omega) n2
           simp only[if_true]at q4;have An:(rows.length+new.length)*R.ai<=R.cap*R.ai:=Nat.mul_le_mul_right _ (by omega);rw[Nat.add_mul]at An;have fD:nv.length=new.length*R.ai:=by rw[n2.1,q0]
           have dN:(storeCells ⟨R.cb,R.co+rows.length*R.ai,none⟩ nv).run P w=.ok () (w.setCells R.cb (R.co+rows.length*R.ai) nv):=by
            have:=run_storeCells_cells (P:=P) R.cb (R.co+rows.length*R.ai) nv 0 w (fun j hj=>(q4 _ (by omega) (by omega)).1) (fun j hj=>(q4 _ (by omega) (by omega)).2) (fun u hu=>by
             obtain⟨k,hk⟩:=List.getElem?_of_mem hu;have ta:=uo hk;rw[fD]at ta;obtain⟨t,ht⟩:=Cw (size:=R.ai) (fun r hr=>by rw[<-q0];exact Mo r hr) ta;obtain⟨v,f1,f2⟩:=n2.2 _ _ _ ht;rw[q0,Nat.div_add_mod',hk]at f1;cases f1;exact iF f2.one)
            simpa using this
           have EL:(⟨R.cb,R.co+off*R.ai,none⟩:Addr).add (len*te.size)=⟨R.cb,R.co+rows.length*R.ai,none⟩:=by
            rw[I0,q0,<-eL,Nat.add_mul,Nat.add_assoc]
           have:=YG (P:=P) (w:=w) (ty:=o.type) Re dM (base:=base) (eX:=len) (lk:=cap) (xv:=a.eval x) (n:=new.length) kv n1 kA (w':=w.setCells R.cb (R.co+rows.length*R.ai) nv) (by rw[As];simp only[EL];exact dN);rw[<-eI]at this;have iR:∀j,j<nv.length->(aC.rows te.size rows true fz).wr R R.cb (R.co+rows.length*R.ai+j):=fun j hj=>⟨rfl,by split<;>omega,by simp only[if_true];omega⟩
           have Aq:=h.ek gT hR iR;refine⟨_,β',S',_,_,cZ _ _ this,.inl rfl,g1,g2.leave wk (sW gT) (by rw[g1 b wk];exact hR) (fun GW=>⟨q0,q1,q3,R.cap,(Au GW).mono g4 Aq⟩),.c (.sl _ base cap g3 (by simp) (by simp;omega) kA (by simp;omega) fun _=>?_)⟩;simp[As]
          ·obtain⟨w',β',S',v,g1,g2,g3,g4,g5⟩:=Mp base len cap _ [b] fz (st.heap.set b none) eI VJ J8 pF (by omega) mH LL (by simpa using hs)
           rw[VK]at g3;refine⟨w',β',S',v,_,cZ _ _ g1,.inl rfl,g2,g3.leave wk (sW gT) (by rw[g2 b wk];exact hR) (fun GW=>⟨q0,q1,q3,R.cap,?_⟩),g4⟩;have hk:=g5 _ _ (.c (.t (Au GW)));cases hk with|c hk=>
           cases hk with|t hk=>exact hk
         ·cases he
        ·rename_i eL
         split at he
         ·rename_i UI
          obtain⟨UI,rfl⟩:=UI;cases he;obtain⟨nv,n1,n2⟩:=ee new.length (Nat.le_refl _);rw[List.take_length]at n2;have mT:0<new.length:=by omega
          have As:=h5 (by omega);have An:(off+len+new.length)*R.ai<=rows.length*R.ai:=Nat.mul_le_mul_right _ UI;rw[Nat.add_mul,Nat.add_mul]at An;have J7:rows.length*R.ai<=(if g=true then R.cap else rows.length)*R.ai:=Nat.mul_le_mul_right _ (by split<;>omega);have fD:nv.length=new.length*R.ai:=by rw[n2.1,q0]
          have vC:∀j,j<nv.length->(w.cell? ⟨R.cb,R.co+(off+len)*R.ai+j,none⟩).isSome=true/\w.frozen? ⟨R.cb,R.co+(off+len)*R.ai+j,none⟩=false:=fun j hj=>q4 _ (by omega) (by rw[Nat.add_mul];omega)
          have dN:(storeCells ⟨R.cb,R.co+(off+len)*R.ai,none⟩ nv).run P w=.ok () (w.setCells R.cb (R.co+(off+len)*R.ai) nv):=by
           have:=run_storeCells_cells (P:=P) R.cb (R.co+(off+len)*R.ai) nv 0 w (fun j hj=>by simpa using (vC j hj).1) (fun j hj=>by simpa using (vC j hj).2) (fun u hu=>by
            obtain⟨k,hk⟩:=List.getElem?_of_mem hu;have ta:=uo hk;rw[fD]at ta;obtain⟨t,ht⟩:=Cw (size:=R.ai) (fun r hr=>by rw[<-q0];exact Mo r hr) ta;obtain⟨v,f1,f2⟩:=n2.2 _ _ _ ht;rw[q0,Nat.div_add_mod',hk]at f1;cases f1;exact iF f2.one)
           simpa using this
          have EL:(⟨R.cb,R.co+off*R.ai,none⟩:Addr).add (len*te.size)=⟨R.cb,R.co+(off+len)*R.ai,none⟩:=by
           rw[I0,q0,Nat.add_mul,Nat.add_assoc]
          have EN:=YG (P:=P) (w:=w) (ty:=o.type) Re dM (base:=base) (eX:=len) (lk:=cap) (xv:=a.eval x) (n:=new.length) kv n1 (by
           have:rows.length<=R.cap:=q2;omega) (w':=w.setCells R.cb (R.co+(off+len)*R.ai) nv) (by rw[As];simp only[EL];exact dN)
          rw[<-eI]at EN;have iR:∀j,j<nv.length->(aC.rows te.size rows g false).wr R R.cb (R.co+(off+len)*R.ai+j):=fun j hj=>⟨rfl,by simp;omega,by rw[Nat.add_mul];omega⟩
          have Aq:=h.ek gT hR iR;have hlen:=SA rows new (off+len) UI;refine⟨_,β,S,_,_,cZ _ _ EN,.inl rfl,fun _ _=>rfl,?_,.c (.sl R base cap hR (fun hh=>absurd hh (by simp)) (fun _=>Mm) (by omega) h4 h5)⟩;refine h.write gT hR _ _ iR (fun c o hy=>by rw[aC.ext,hlen]at hy;exact hy) (fun c o hy=>by rw[aC.wr,hlen]at hy;exact hy) ⟨q0,fun r hr=>?_,by rw[hlen];exact q2,q3,by rw[hlen];exact SF,?_,fun i j t ht=>?_,by simp⟩
          ·obtain⟨k,hk⟩:=List.getElem?_of_mem hr
           rw[Pg _ _ _ _ UI]at hk;split at hk
           ·rw[<-q0];exact Mo r (List.mem_of_getElem? hk)
           ·exact q1 r (List.mem_of_getElem? hk)
          ·rw[hlen];exact UG q4 fun j hj=>(vC j hj).1
          ·obtain⟨row,f1,f2,f3,f4⟩:=iS ht
           rw[Pg _ _ _ _ UI]at f1;split at f1
           ·rename_i SM
            obtain⟨v,k1,k2⟩:=n2.2 _ _ _ (GM f1 f2);have hj:j<R.ai:=by rw[<-q0,<-Mo row (List.mem_of_getElem? f1)];exact f4
            rw[q0]at k1;have hii:i*R.ai=(off+len)*R.ai+(i-(off+len))*R.ai:=by rw[<-Nat.add_mul];congr 1;omega
            have ta:=uo k1;exact⟨v,gl (fun j hj=>(vC j hj).1) (by omega) (by omega) (by rw[show R.co+i*R.ai+j-(R.co+(off+len)*R.ai)=(i-(off+len))*R.ai+j by omega];exact k1),k2.mono (fun _ _ hx=>hx) Aq⟩
           ·rename_i SM
            have mM:=GM f1 f2;obtain⟨v,k1,k2⟩:=q5 _ _ _ mM;obtain⟨_,hj,_⟩:=g7 q1 mM;refine⟨v,?_,k2.mono (fun _ _ hx=>hx) Aq⟩;rw[SH]
            ·exact k1
            ·rintro⟨_,h8,h9⟩
             rcases Nat.lt_or_ge i (off+len) with EE|EE
             ·have:=Nat.mul_le_mul_right R.ai (show i+1<=off+len by omega)
              rw[Nat.succ_mul]at this;omega
             ·have:=Nat.mul_le_mul_right R.ai (show off+len+new.length<=i by omega)
              rw[Nat.add_mul]at this;omega
         ·cases he
     ·cases he
    ·cases he
end
section
variable {P:Program} {C:eh} {K:Ctx} {β:Nat->Option bR} {S:Place} {st:St} {a:Act} {w:World} {slot:Nat} {e:bW} {o:Oper}
theorem Flat.aaH {rows:List (List Tree)} {size:Nat} {vs:List Value} (h:Flat S w rows size vs) (hs:∀r∈rows,r.length=size):∀u∈vs,one u:=by
 intro u hu;obtain⟨k,hk⟩:=List.getElem?_of_mem hu;have ta:=uo hk;rw[h.1]at ta;obtain⟨t,ht⟩:=Cw hs ta;obtain⟨v,f1,f2⟩:=h.2 _ _ _ ht;rw[Nat.div_add_mod',hk]at f1;cases f1;exact f2.one
theorem Sat.overwrite (h:Sat K β S st a w) {b sz lo:Nat} {rows new:List (List Tree)} {g:Bool} {R:bR} (hb:look st.heap b=some (.rows sz rows g false)) (hR:β b=some R)
  (hle:lo+new.length<=rows.length) (dS:∀r∈new,r.length=sz) {nv:List Value} (Ct:Flat S w new sz nv) :
  Sat K β S ⟨st.tmps,st.heap.set b (some (.rows sz (aX rows lo new) g false))⟩ a (w.setCells R.cb (R.co+lo*R.ai) nv) /\
   (storeCells ⟨R.cb,R.co+lo*R.ai,none⟩ nv).run P w=.ok () (w.setCells R.cb (R.co+lo*R.ai) nv)/\(∀c o,S c o->(w.setCells R.cb (R.co+lo*R.ai) nv).cell? ⟨c,o,none⟩=w.cell? ⟨c,o,none⟩):=by
 obtain⟨R',e1,⟨q0,q1,q2,q3,SF,q4,q5,q6⟩,e4,e5⟩:=h.au b _ hb;rw[hR]at e1;cases e1;have An:(lo+new.length)*R.ai<=rows.length*R.ai:=Nat.mul_le_mul_right _ hle;rw[Nat.add_mul]at An;have J7:rows.length*R.ai<=(if g=true then R.cap else rows.length)*R.ai:=Nat.mul_le_mul_right _ (by split<;>omega);have fD:nv.length=new.length*R.ai:=by rw[Ct.1,q0]
 have vC:∀j,j<nv.length->(w.cell? ⟨R.cb,R.co+lo*R.ai+j,none⟩).isSome=true/\w.frozen? ⟨R.cb,R.co+lo*R.ai+j,none⟩=false:=fun j hj=>q4 _ (by omega) (by omega)
 have iR:∀j,j<nv.length->(aC.rows sz rows g false).wr R R.cb (R.co+lo*R.ai+j):=fun j hj=>⟨rfl,by simp;omega,by omega⟩
 have Aq:=h.ek hb hR iR;have hlen:=SA rows new lo hle;refine⟨?_,?_,Aq⟩
 ·refine h.write hb hR _ _ iR (fun c o hy=>by rw[aC.ext,hlen]at hy;exact hy) (fun c o hy=>by rw[aC.wr,hlen]at hy;exact hy) ⟨q0,fun r hr=>?_,by rw[hlen];exact q2,q3,by rw[hlen];exact SF,?_,fun i j t ht=>?_,by simp⟩
  ·obtain⟨k,hk⟩:=List.getElem?_of_mem hr
   rw[Pg _ _ _ _ hle]at hk;split at hk
   ·rw[<-q0];exact dS r (List.mem_of_getElem? hk)
   ·exact q1 r (List.mem_of_getElem? hk)
  ·rw[hlen];exact UG q4 fun j hj=>(vC j hj).1
  ·obtain⟨row,f1,f2,f3,f4⟩:=iS ht
   rw[Pg _ _ _ _ hle]at f1;split at f1
   ·rename_i SM
    obtain⟨v,k1,k2⟩:=Ct.2 _ _ _ (GM f1 f2);have hj:j<R.ai:=by rw[<-q0,<-dS row (List.mem_of_getElem? f1)];exact f4
    rw[q0]at k1;have hii:i*R.ai=lo*R.ai+(i-lo)*R.ai:=by rw[<-Nat.add_mul];congr 1;omega
    have ta:=uo k1;exact⟨v,gl (fun j hj=>(vC j hj).1) (by omega) (by omega) (by rw[show R.co+i*R.ai+j-(R.co+lo*R.ai)=(i-lo)*R.ai+j by omega];exact k1),k2.mono (fun _ _ hx=>hx) Aq⟩
   ·rename_i SM
    have mM:=GM f1 f2;obtain⟨v,k1,k2⟩:=q5 _ _ _ mM;obtain⟨_,hj,_⟩:=g7 q1 mM;refine⟨v,?_,k2.mono (fun _ _ hx=>hx) Aq⟩;rw[SH]
    ·exact k1
    ·rintro⟨_,h8,h9⟩
     rcases Nat.lt_or_ge i lo with EE|EE
     ·have:=Nat.mul_le_mul_right R.ai (show i+1<=lo by omega)
      rw[Nat.succ_mul]at this;omega
     ·have:=Nat.mul_le_mul_right R.ai (show lo+new.length<=i by omega)
      rw[Nat.add_mul]at this;omega
 ·have:=run_storeCells_cells (P:=P) R.cb (R.co+lo*R.ai) nv 0 w (fun j hj=>by simpa using (vC j hj).1) (fun j hj=>by simpa using (vC j hj).2) (fun u hu=>iF (Ct.aaH dS u hu))
  simpa using this
theorem SN (hC:bq P C) (h:Sat K β S st a w) {args:Array Operand} {argTypes:Array TypeId} {t el:TypeId} {te:TI} {d x:Operand}
  (ho:o.op=.call { callee:=.builtin .copy,args,argTypes }) (dG:args.toList=[d,x]) (ht:argTypes[0]?=some t) (hu:P.underlying t=some (.slice el)) (du:C.ty el=some te)
  (he:lf te (look st.heap) (st.get d) (st.get x)=some e):oN P K β S st a w slot o e:=by
 have dM:=iV (hC _ te du);have LQ:args=#[d,x]:=by rw[<-Array.toArray_toList (xs:=args),dG]
 subst LQ;have VL:=h.get d;have Ml:=h.get x;unfold lf at he;split at he
 ·rename_i src oM b off len cp aaI hg
  rw[hg]at VL;cases VL with|c VL=>
  generalize eI:a.eval d=av at VL;cases VL with|sl R base cap hR h1 h2 h3 h4 h5=>
  split at he
  ·rename_i sz rows g hb
   split at he
   ·rename_i Ar
    obtain⟨hle,jr,rfl⟩:=Ar;cases he;have Mo:∀r∈src,r.length=te.size:=wz jr;obtain⟨kv,ee⟩:=g8 (P:=P) h Ml aaI Mo;have SO:min src.length len<=src.length:=Nat.min_le_left _ _;have adw:min src.length len<=len:=Nat.min_le_right _ _;obtain⟨nv,n1,n2⟩:=ee (min src.length len) SO;have Mq:(src.take (min src.length len)).length=min src.length len:=by rw[List.length_take];omega
    obtain⟨s1,s2,s3⟩:=h.overwrite (P:=P) hb hR (lo:=off) (new:=src.take (min src.length len)) (by omega) (fun r hr=>Mo r (List.mem_of_mem_take hr)) n2;refine⟨w.setCells R.cb (R.co+off*R.ai) nv,β,S,goInt (min src.length len:Nat),_,?_,.inl rfl,fun _ _=>rfl,s1,aH.sO (GP _ _)⟩;have fY:(match base with|some ad=>(storeCells ad nv).run P w|none=>.ok () w)=.ok () (w.setCells R.cb (R.co+off*R.ai) nv):=by
     rcases Nat.eq_zero_or_pos cap with h0|h0
     ·have UJ:nv=[]:=List.eq_nil_of_length_eq_zero (by rw[n2.1,Mq,show min src.length len=0 by omega];simp)
      subst UJ;cases base<;>simp[storeCells,World.setCells]
     ·rw[h5 h0];exact s2
    cases base with
    | none=>
     simp only[Result.ok.injEq,true_and]at fY;rw[<-fY];simp only[execOp,ho,resolve,invoke,builtin,Builtin.copy_,Sem.run_bind,Sem.run_pure,Result.andThen,List.map_toArray,List.map_cons,List.map_nil,ht,List.getElem?_toArray,List.getElem?_cons_zero,List.getElem?_cons_succ,run_underlying hu,eI,kv,dM.sizeOf];rw[show Nat.min src.length len=min src.length len from rfl,n1]
    | some ad=>
     simp only at fY;simp only[execOp,ho,resolve,invoke,builtin,Builtin.copy_,Sem.run_bind,Sem.run_pure,Result.andThen,List.map_toArray,List.map_cons,List.map_nil,ht,List.getElem?_toArray,List.getElem?_cons_zero,List.getElem?_cons_succ,run_underlying hu,eI,kv,dM.sizeOf];rw[show Nat.min src.length len=min src.length len from rfl,n1];simp only[fY]
   ·cases he
  ·cases he
 ·cases he
def Mr (S:Place) (w:World) (rows:List (List Tree)) (size:Nat) (vs:Array Value):Prop:=
 vs.size=rows.length*size/\∀(i j:Nat) (t:Tree),fg rows i j=some t->∃v,vs[i*size+j]?=some v/\dR S w t v
theorem qY {size:Nat} (VM:size≠0):∀(pa:List (Nat×AV)) (pv:List (Nat×Value)) (rows dv:List (List Tree)) (vs:Array Value) (cur:bM) (S:Place) (m:List (Nat×Option aC)),
  fp (look st.heap) size rows pa=some (dv,m)->pv.length=pa.length->Sat K β S ⟨st.tmps,cur⟩ a w->eF st.heap cur ->
  (∀(k:Nat) (i:Nat) (x:AV),pa[k]?=some (i,x)->∃v,pv[k]?=some (i,v)/\aH β S w x v)->(∀r∈rows,r.length=size)->Mr S w rows size vs ->
  ∃S' arr,(∀c o,S c o->S' c o)/\Sat K β S' ⟨st.tmps,eK cur m⟩ a w/\eF st.heap (eK cur m)/\Instr.fill (fun i=>some (i*size,size)) vs pv=some arr/\Mr S' w dv size arr/\(∀r∈dv,r.length=size)/\dv.length=rows.length
 | [],[],rows,dv,vs,cur,S,m,h,_,kC,hm,_,hr,hf=>by
  simp[fp]at h;obtain⟨rfl,rfl⟩:=h;exact⟨S,vs,fun _ _ hx=>hx,kC,hm,rfl,hf,hr,rfl⟩
 | (i,x)::pa,[],_,_,_,_,_,_,_,hl,_,_,_,_,_=>by simp at hl
 | [],_::_,_,_,_,_,_,_,_,hl,_,_,_,_,_=>by simp at hl
 | (i,x)::pa,(i',v)::pv,rows,dv,vs,cur,S,m,h,hl,kC,hm,hp,hr,hf=>by
  obtain⟨v',sQ,hx⟩:=hp 0 i x rfl;simp at sQ;obtain⟨rfl,rfl⟩:=sQ;unfold fp at h;split at h
  ·rename_i cells hcx
   split at h
   ·rename_i dS
    obtain⟨dS,hi⟩:=dS;split at h
    ·rename_i ts m1 uv
     split at h
     ·rename_i r2 m2 h2
      cases h;obtain⟨h1,h3⟩:=hx.Cs hcx;obtain⟨S1,e1,e2,e3,e4,e5⟩:=gk cells v.cells.toList cur S ts m1 kC hm h1 h3 uv;have iR:i'*size+size<=rows.length*size:=by
       have:=Nat.mul_le_mul_right size (show i'+1<=rows.length by omega);rwa[Nat.succ_mul]at this
      have pF:v.cells.size=size:=by rw[<-dS,<-h1];simp
      have he:v.cells.zipIdx.foldl (fun cs (c,j)=>cs.setIfInBounds (i'*size+j) c) vs=(v.cells.toList.zipIdx 0).foldl (fun cs (x:Value×Nat)=>cs.setIfInBounds (i'*size+x.2) x.1) vs:=by
       rw[<-Array.foldl_toList,Array.toList_zipIdx]
      obtain⟨g1,g2⟩:=Great.foldl_set (i'*size) v.cells.toList 0 vs;have yx:(rows.set i' ts).length=rows.length:=by simp
      have hf1:Mr S1 w (rows.set i' ts) size (v.cells.zipIdx.foldl (fun cs (c,j)=>cs.setIfInBounds (i'*size+j) c) vs):=by
       rw[he];refine⟨by rw[g1,yx];exact hf.1,fun p j t ht=>?_⟩;rw[g2];obtain⟨row,k1,k2,k3,k4⟩:=iS ht;rw[List.getElem?_set]at k1;rw[yx]at k3;split at k1
       ·rename_i hip
        subst hip;cases k1;have hj:j<size:=by omega
        rw[if_pos ⟨by omega,by omega,by rw[hf.1];omega⟩];obtain⟨u,q1,q2⟩:=e5 j t k2;exact⟨u,by rw[show i'*size+j-(i'*size+0)=j by omega];exact q1,q2⟩
       ·rename_i hip
        have hj:j<size:=by rw[<-hr row (List.mem_of_getElem? k1)];exact k4
        rw[if_neg (by
         rintro⟨q1,q2,q3⟩
         rcases Nat.lt_trichotomy p i' with q|q|q
         ·have:=Nat.mul_le_mul_right size (show p+1<=i' by omega)
          rw[Nat.succ_mul]at this;omega
         ·exact hip q.symm
         ·have:=Nat.mul_le_mul_right size (show i'+1<=p by omega)
          rw[Nat.succ_mul]at this;omega)]
        obtain⟨u,q1,q2⟩:=hf.2 p j t (GM k1 k2);exact⟨u,q1,q2.mono e1 fun _ _ _=>rfl⟩
      have I1:∀r∈rows.set i' ts,r.length=size:=by
       intro r ym;rcases List.mem_or_eq_of_mem_set ym with h|h
       ·exact hr r h
       ·rw[h,e4,dS]
      obtain⟨S2,arr,f1,f2,f3,f4,f5,f6,f7⟩:=qY VM pa pv _ _ _ _ S1 m2 h2 (by simpa using hl) e2 e3 (fun k i x hk=>by
       obtain⟨u,q1,q2⟩:=hp (k+1) i x (by simpa using hk);exact⟨u,by simpa using q1,q2.mono (fun _ _ hx=>hx) e1 fun _ _ _=>rfl⟩) I1 hf1
      refine⟨S2,arr,fun c o hx=>f1 _ _ (e1 _ _ hx),by rw[GX];exact f2,by rw[GX];exact f3,?_,f5,f6,by rw[f7,yx]⟩;unfold Instr.fill;simp only[pF,hf.1];rw[if_neg (by simp;exact iR)];exact f4
     ·cases h
    ·cases h
   ·cases h
  ·cases h
theorem Ms (h:Sat K β S st a w) (hs:slot<st.heap.length) (hf:β slot=none) {t el:TypeId} {len:Nat} {ti te:TI} {parts:Array (Nat×Operand)} (ho:o.op=.buildSlice t len parts)
  (dM:gV P t ti) (eE:gV P el te) (hk:ti.kind=.slice el) (he:qN C slot t te.size len (parts.toList.map fun p=>(p.1,st.get p.2))=some e):oN P K β S st a w slot o e:=by
 obtain⟨ie,z,i1,i2,i3,_,_⟩:=qX eE S w β;have Mt:∀(k i:Nat) (x:AV),(parts.toList.map fun p=>(p.1,st.get p.2))[k]?=some (i,x)->∃v,(parts.map fun(i,x)=>(i,a.eval x)).toList[k]?=some (i,v)/\aH β S w x v:=fun k i x hx=>oi h parts k i x hx
 have OG:(parts.map fun(i,x)=>(i,a.eval x)).toList.length=(parts.toList.map fun p=>(p.1,st.get p.2)).length:=by simp
 generalize (parts.toList.map fun p=>(p.1,st.get p.2))=ps at he Mt OG;generalize YI:(parts.map fun(i,x)=>(i,a.eval x))=pv at Mt OG;unfold qN at he;split at he
 ·rename_i pF dS
  cases he;have aaK:pv=#[]:=by
   have:pv.toList=[]:=List.eq_nil_of_length_eq_zero OG;exact Array.toList_eq_nil_iff.1 this
  obtain⟨β',f1,f2,f3⟩:=h.wy (slot:=slot) hs hf (w':=w.alloc (.cells #[] el)) (cells:=#[]) (el:=el) (cs:=[]) rfl rfl rfl rfl (by simp) (by simp) (fun j c hj=>by simp at hj);refine⟨_,β',S,_,.value (.slice (some ⟨w.heap.size,0,none⟩) 0 0),?_,.inl rfl,f1,f2,f3⟩;simp only[execOp,ho,YI,aaK,Instr.buildSlice,run_underlying (dM.slice hk),Sem.run_bind,Result.andThen,eE.sizeOf,Nat.zero_mul,Sem.run_ite,Sem.run_pure]
  rw[if_neg (by omega)];have Kf:Array.map (fun x=>(#[]:Array Value)[x%(#[]:Array Value).size]!) (Array.range 0)=#[]:=by
   have:Array.range 0=#[]:=rfl;rw[this,Array.map_empty]
  simp only[if_true,Sem.run_pure,Instr.fill,newRow,run_newObj,Sem.run_bind,Result.andThen,Kf];rfl
 ·rename_i x pF dS
  cases he;obtain⟨v,EF,I7⟩:=Mt 0 0 (.c x) rfl;have aaL:pv.toList=[(0,v)]:=by
   match hq:pv.toList,OG with
   | [q],_=>rw[hq]at EF;simp at EF;rw[EF]
  cases I7 with|c I7=>
  have hvc:=sY I7.one;obtain⟨β',f1,f2,f3⟩:=h.wy (slot:=slot) hs hf (w':=w.alloc (.cells #[v] el)) (cells:=#[v]) (el:=el) (cs:=[x]) rfl rfl rfl rfl (by simp) (by simp) (fun j c hj=>by
   cases j with
   | zero=>simp at hj;subst hj;exact⟨v,rfl,I7⟩
   | succ j=>simp at hj)
  have cZ:=run_buildSlice (P:=P) w t el 1 pv #[v] ie z (dM.slice hk) i1 i2 (by rw[i3,dS];decide) (by rw[i3,dS];decide) (by
   rw[aaL,i3,dS];have hA:∀A:Array Value,A.size=1->Instr.fill (fun i=>some (i*1,1)) A [(0,v)]=some #[v]:=fun A hA=>by
    have iW:A.setIfInBounds 0 v=#[v]:=by
     apply Array.ext
     ·simp[hA]
     ·intro i q1 q2
      have:i=0:=by simp at q2;omega
      subst this;simp
    simp[Instr.fill,hvc,hA,iW]
   exact hA _ (by simp))
  refine⟨_,β',S,_,.value (.slice (some ⟨w.heap.size,0,none⟩) 1 1),?_,.inl rfl,f1,f2,f3⟩;simp only[execOp,ho,YI,Sem.run_bind,cZ,Result.andThen,Sem.run_pure]
 ·cases he
theorem CH (hC:bq P C) (h:Sat K β S st a w) (hs:slot<st.heap.length) (hf:β slot=none) {t:TypeId} {len:Nat} {parts:Array (Nat×Operand)} (ho:o.op=.buildSlice t len parts)
  (he:evalOp C slot st.get (look st.heap) (.buildSlice t len parts)=some e):oN P K β S st a w slot o e:=by
 simp only[evalOp]at he;split at he
 ·rename_i ti bZ
  have dM:=iV (hC t ti bZ);split at he
  ·rename_i el hk
   split at he
   ·rename_i te du
    have eE:=iV (hC _ te du);split at he
    ·rename_i dS
     obtain⟨dS,VM⟩:=dS;split at he
     ·rename_i e1 h1
      cases he;exact Ms h hs hf ho dM eE hk h1
     ·split at he
      ·rename_i rows m hfr
       cases he;obtain⟨ie,z,i1,i2,i3,_,_⟩:=qX eE S w β;obtain⟨z',z1,z2,z3⟩:=EJ eE VM S w len;have hzz:z'=z:=by
        simp[Go.zeroValue,Go.typeInfo,i1,i2,Result.andThen]at z1;exact z1.symm
       subst hzz;obtain⟨S1,arr,e1,e2,e3,e4,e5,e6,e7⟩:=qY (a:=a) (w:=w) VM _ _ _ _ ((Array.range (len*te.size)).map (z'.cells[· % z'.cells.size]!)) st.heap S m hfr (by simp) h (eF.refl _) (oi h parts) (fun r hr=>by rw[(List.mem_replicate.1 hr).2];exact eE.len) ⟨by simp,fun i j t ht=>by
        obtain⟨v,q1,q2⟩:=z3.2 i j t ht;exact⟨v,by rw[<-Array.getElem?_toList];exact q1,q2⟩⟩
       have yx:rows.length=len:=by rw[e7];simp
       have hlb:len*1<=len*te.size:=Nat.mul_le_mul_left _ (by omega);have adx:len<2^60:=by omega
       obtain⟨β',S',f1,f2,f3,f4⟩:=e2.Cy (slot:=slot) (by rw[Mi];exact hs) hf (w':=w.alloc (.cells arr el)) (cells:=arr) (el:=el) (rows:=rows) (size:=te.size) (cap:=len) (g:=true) (fz:=false) rfl rfl rfl rfl e6 (by omega) (by omega) (by omega) (by rw[e5.1,yx]) ⟨by rw[List.length_take];simp[e5.1],fun i j t ht=>by
        obtain⟨v,q1,q2⟩:=e5.2 i j t ht;obtain⟨_,_,bG⟩:=g7 e6 ht;exact⟨v,by rw[List.getElem?_take,if_pos bG];simpa using q1,q2⟩⟩
       rw[yx]at f3
       by_cases h0:len=0
       ·subst h0
        have Pe:rows=[]:=List.eq_nil_of_length_eq_zero yx;refine⟨_,β',S',_,.value (.slice (some ⟨w.heap.size,0,none⟩) 0 0),?_,.inl rfl,f1,by rw[GX];exact f2,f3⟩;have ha:arr=#[]:=Array.eq_empty_of_size_eq_zero (by rw[e5.1,Pe];simp);subst ha;simp only[Nat.zero_mul]at e4;simp only[execOp,ho,Instr.buildSlice,run_underlying (dM.slice hk),Sem.run_bind,Result.andThen,eE.sizeOf,Nat.zero_mul,Sem.run_ite,Sem.run_pure]
        have Kf:Array.range 0=#[]:=rfl;have hrz:Array.map (fun x=>(#[]:Array Value)[x%(#[]:Array Value).size]!) (Array.range 0)=Array.map (fun x=>z'.cells[x%z'.cells.size]!) (Array.range 0):=by rw[Kf];simp only[Array.map_empty]
        rw[if_neg (by omega)];simp only[if_true,Sem.run_pure,hrz,e4,newRow,run_newObj,Sem.run_bind,Result.andThen];rfl
       ·have cZ:=run_buildSlice (P:=P) w t el len (parts.map fun(i,x)=>(i,a.eval x)) arr ie z' (dM.slice hk) i1 i2 (by rw[i3];omega) (fun hh=>by rcases Nat.mul_eq_zero.1 hh with q|q;exact h0 q;exact VM (by rw[<-i3];exact q)) (by rw[i3];exact e4)
        refine⟨_,β',S',_,.value (.slice (some ⟨w.heap.size,0,none⟩) len len),?_,.inl rfl,f1,by rw[GX];exact f2,f3⟩;simp only[execOp,ho,Sem.run_bind,cZ,Result.andThen,Sem.run_pure]
      ·cases he
    ·cases he
   ·cases he
  ·cases he
 ·cases he
theorem wA {kd:TypeDesc} {key:Value} {tv:Tree} (hs:∀x b,sameKey key x=some b->Instr.sameNow kd key x=some b) :
  ∀(cR mY:List (Value×Tree)) (es:List MapEntry) (i:Nat),fV key tv cR=some mY->es.length=cR.length ->
  (∀(i:Nat) (k:Value) (t:Tree),cR[i]?=some (k,t)->∃e:MapEntry,es[i]?=some e/\e.key=k/\dR S w t e.val) ->
  (Instr.findNow kd key es i=some none/\mY=cR ++ [(key,tv)]) ∨
  (∃(j:Nat) (e:MapEntry),Instr.findNow kd key es i=some (some (i+j,e.val))/\es[j]?=some e/\sameKey key e.key=some true/\mY=cR.set j (key,tv))
 | [],mY,es,i,h,hl,_=>by
  simp[fV]at h;subst h;have:es=[]:=List.eq_nil_of_length_eq_zero (by simpa using hl);subst this;exact .inl ⟨by simp[Instr.findNow],rfl⟩
 | (k,t)::cR,mY,[],_,_,hl,_=>by simp at hl
 | (k,t)::cR,mY,e::es,i,h,hl,hr=>by
  obtain⟨e',Sv,J9,du⟩:=hr 0 k t rfl;simp at Sv;subst Sv;unfold fV at h;simp only at h;split at h
  ·rename_i LL
   cases h;have:=hs _ _ LL;refine .inr ⟨0,e,?_,rfl,by rw[J9];exact LL,rfl⟩;simp[Instr.findNow,J9,this]
  ·rename_i LL
   have hn:=hs _ _ LL;obtain⟨r,I1,rfl⟩:=Option.map_eq_some_iff.1 h;rcases wA hs cR r es (i+1) I1 (by simpa using hl) (fun j k' t' hj=>by simpa using hr (j+1) k' t' (by simpa using hj)) with⟨h1,rfl⟩|⟨j,e0,h1,h2,h3,rfl⟩
   ·exact .inl ⟨by simp only[Instr.findNow,J9,hn];exact h1,rfl⟩
   ·exact .inr ⟨j+1,e0,by simp only[Instr.findNow,J9,hn];rw[h1];congr 3;omega,by simpa using h2,h3,rfl⟩
  ·cases h
theorem EO (a b:ByteArray):(a==b)=true↔a=b:=by
 show(a.data==b.data)=true↔_
 rw[beq_iff_eq];constructor
 ·intro h;cases a;cases b;simp only at h;rw[h]
 ·intro h;rw[h]
theorem sameKey_eq {x y:Value} (h:sameKey x y=some true):x=y/\∀n,Instr.sameBits n y x=true:=by
 unfold sameKey at h;split at h
 ·split at h
  ·rename_i hk;subst hk
   simp only[Option.some.injEq,beq_iff_eq]at h;subst h;exact⟨rfl,fun n=>by cases n<;>simp[Instr.sameBits]⟩
  ·cases h
 ·simp only[Option.some.injEq,EO]at h;subst h
  exact⟨rfl,fun n=>by cases n<;>simp[Instr.sameBits,EO]⟩
 ·simp only[Option.some.injEq,beq_iff_eq]at h;subst h
  exact⟨rfl,fun n=>by cases n<;>simp[Instr.sameBits]⟩
 ·cases h
theorem EP (hC:bq P C) (h:Sat K β S st a w) {t:TypeId} {x i v:Operand} (ho:o.op=.mapUpdate t x i v)
  (he:evalOp C slot st.get (look st.heap) (.mapUpdate t x i v)=some e):oN P K β S st a w slot o e:=by
 simp only[evalOp]at he;have hx:=h.get x;have hi:=h.get i;have hv:=h.get v;split at he
 ·rename_i ti bZ
  have dM:=iV (hC t ti bZ);split at he
  ·rename_i k el b key tv hk Cu LM VN
   rw[Cu]at hx;rw[LM]at hi;rw[VN]at hv;obtain⟨hi,_⟩:=hi.scalar;cases hv with|c hv=>
   cases hv with|t hv=>
   cases hx with|c hx=>
   generalize eI:a.eval x=av at hx;cases hx with|mp R hR=>
   split at he
   ·rename_i cR tk hb eC
    have Sw:=iV (hC _ tk eC);obtain⟨R',h6,h7,h7x,h7w⟩:=h.au b _ hb;rw[hR]at h6;cases h6;obtain⟨hB,es,clock,h8,h9,EE⟩:=h7;split at he
    ·cases he
    ·rename_i kA
     have VO:jb tk.kind key=true:=by simpa using kA
     obtain⟨kd,Yv,O9,Cv⟩:=uq Sw VO;split at he
     ·rename_i mY hse
      cases he;have fX:(getObj R.cb).run P w=.ok (.map es clock) w:=by simp[getObj,Sem.run,h8]
      have Pa:=Cv false 9999 w;have bG:R.cb<w.heap.size:=(h7x R.cb 0 ⟨rfl,trivial⟩).1;have jG:∀ob,(setObj R.cb ob).run P w=.ok () { w with heap:=w.heap.setIfInBounds R.cb ob }:=by
       intro ob;simp[setObj,Sem.run,h8]
      have fin:∀(IZ:Array MapEntry) (mZ:Nat),IZ.size=mY.length->(∀(i:Nat) (k:Value) (t:Tree),mY[i]?=some (k,t)->∃e:MapEntry,IZ[i]?=some e/\e.key=k/\dR S w t e.val) ->
        (execOp a.eval o).run P w=.ok .skip { w with heap:=w.heap.setIfInBounds R.cb (.map IZ mZ) }->oN P K β S st a w slot o { wr:=[(b,some (.map mY))],rd:=[b] }:=by
       intro IZ mZ dS jt cZ;have hk:fh (fun c _=>c=R.cb) w { w with heap:=w.heap.setIfInBounds R.cb (.map IZ mZ) }:=by
        refine⟨rfl,rfl,rfl,by simp,fun q ob hq=>?_⟩;show fP _ q ob ((w.heap.setIfInBounds R.cb (.map IZ mZ))[q]?)
        rw[Array.getElem?_setIfInBounds]
        by_cases hqc:R.cb=q
        ·subst hqc
         rw[if_pos rfl,if_pos bG];rw[h8]at hq;cases hq;exact⟨IZ,mZ,rfl,fun hn=>absurd rfl (hn 0)⟩
        ·rw[if_neg hqc,hq];exact fP.refl _ _ _
       have hold:∀c o,S c o->(World.cell? { w with heap:=w.heap.setIfInBounds R.cb (.map IZ mZ) } ⟨c,o,none⟩)=w.cell? ⟨c,o,none⟩:=fun c o hs=>(hk.cell (h.sN c o hs) fun e=>h7w c o ⟨e,trivial⟩ hs).1
       refine⟨_,β,S,undef,.skip,cZ,.inr ⟨rfl,rfl⟩,fun _ _=>rfl,?_,.af _⟩;refine h.step (fun b'=>b'=b) hk (fun c o hc bG=>⟨h7w c o ⟨hc,trivial⟩,(h7x c o ⟨hc,trivial⟩).2,fun b' au R1 hD bK LO hy=>?_⟩) (fun _ _ hx=>hx) (fun b' R' bK=>by rw[Mi];exact h.top b' R' bK) (fun _ _ hx=>hx) (fun _ _ hx=>.inl hx) (fun b' au hD bK=>?_) (fun b' au hD bK=>?_)
       ·exact h.mz b b' _ au R R1 (Ne.symm hD) hb bK hR LO c o ⟨hc,trivial⟩ hy
       ·simp only[eK,List.foldl_cons,List.foldl_nil]at bK
        rw[sZ hD]at bK;exact bK
       ·subst hD
        simp only[eK,List.foldl_cons,List.foldl_nil]at bK;rw[Ap (sW hb)]at bK;cases bK;refine⟨R,hR,⟨hB,IZ,mZ,?_,dS,fun i k t hi=>?_⟩,fun c o hy=>?_,fun c o hy=>h7w c o hy,fun EH iI wm cY jc mG c o hy=>?_⟩
        ·show(w.heap.setIfInBounds R.cb (.map IZ mZ))[R.cb]?=_
         rw[Array.getElem?_setIfInBounds,if_pos rfl,if_pos bG]
        ·obtain⟨e,q1,q2,q3⟩:=jt i k t hi
         exact⟨e,q1,q2,q3.mono (fun _ _ hx=>hx) hold⟩
        ·obtain⟨q1,q2⟩:=h7x c o hy
         exact⟨by simpa using q1,q2⟩
        ·simp only[eK,List.foldl_cons,List.foldl_nil]at jc
         rw[sZ cY]at jc;exact h.mz _ _ _ _ R wm (Ne.symm cY) hb jc hR mG c o hy
      rcases wA (S:=S) (w:=w) O9 cR mY es.toList 0 hse (by simpa using h9) (fun i k t hi=>by obtain⟨e,q1,q2⟩:=EE i k t hi;exact⟨e,by simpa using q1,q2⟩) with⟨jm,rfl⟩|⟨j,e0,jm,hej,LL,rfl⟩
      ·refine fin (es.push { key,val:=a.eval v,born:=clock }) (clock+1) (by simp[h9]) (fun i k t hi=>?_) ?_
       ·rw[List.getElem?_append]at hi
        split at hi
        ·rename_i tc
         obtain⟨e,q1,q2⟩:=EE i k t hi;exact⟨e,by rw[Array.getElem?_push,if_neg (by omega)];exact q1,q2⟩
        ·rename_i GL
         have:i=cR.length:=by
          have:=uo hi;simp at this;omega
         subst this;simp at hi;obtain⟨rfl,rfl⟩:=hi;exact⟨_,by rw[Array.getElem?_push,if_pos h9.symm],rfl,hv⟩
       ·simp only[execOp,ho,Instr.mapUpdate,run_underlying (dM.map hk),eI,hi,Sem.run_bind,Sem.run_pure,Result.andThen,fX,Pa,Instr.findKey,run_underlying Yv,jm,jG]
      ·obtain⟨J9,VQ⟩:=sameKey_eq LL
       refine fin (es.modify j fun e=>{ e with key,val:=a.eval v }) clock (by simp[h9]) (fun i k t hi=>?_) ?_
       ·rw[List.getElem?_set]at hi
        split at hi
        ·rename_i hji
         subst hji;split at hi
         ·cases hi
          exact⟨_,by rw[Array.getElem?_modify,if_pos rfl,show es[j]?=some e0 by simpa using hej];rfl,rfl,hv⟩
         ·cases hi
        ·rename_i hji
         obtain⟨e,q1,q2⟩:=EE i k t hi;exact⟨e,by rw[Array.getElem?_modify,if_neg hji];exact q1,q2⟩
       ·have aaP:es[j]?=some e0:=by simpa using hej
        rw[Nat.zero_add]at jm;simp only[execOp,ho,Instr.mapUpdate,run_underlying (dM.map hk),eI,hi,Sem.run_bind,Sem.run_pure,Result.andThen,fX,Pa,Instr.findKey,run_underlying Yv,jm,aaP,Option.map_some,Option.getD_some,Instr.keyThatStays,VQ,if_true,Nat.zero_add,jG]
     ·cases he
   ·cases he
  ·cases he
 ·cases he
end
inductive TV where
 | c (t:Tree)
 | agg (l:List Tree)
 deriving Inhabited
def TV.av:TV->AV
 | .c t=>.c (.t t)
 | .agg l=>.agg (l.map .t)
inductive Arg where
 | val (x:TV)
 | fj (sz:Nat) (rows:List (List Tree))
 | own (sz:Nat) (rows:List (List Tree))
 | ref (cells:List Tree)
 | dy (f:FuncId) (aK:List (Nat×Nat×Nat))
 | gh (cells:List Tree)
 deriving Inhabited
def kE:List Arg->Nat
 | []=>0
 | .gh _::_=>0
 | _::as=>kE as+1
def Arg.au:Arg->Option aC
 | .val _=>none
 | .fj sz rows=>some (.rows sz rows false false)
 | .own sz rows=>some (.rows sz rows true false)
 | .ref cells=>some (.var (cells.map .t))
 | .dy _ _=>none
 | .gh cells=>some (.var (cells.map .t))
inductive RC where
 | val (x:TV)
 | own (sz:Nat) (rows:List (List Tree))
 deriving Inhabited
structure mB where
 aT:List RC
 out:List (Option aC)
abbrev ER:Nat->Option bR:=fun _=>none
def Kh (R:bR) (n:Nat) (v:Value):Prop:=∃base,v=.slice base n R.cap/\(0<R.cap->base=some ⟨R.cb,R.co,none⟩)
def Rf (S:Place) (w:World) (R:bR):Arg->Value->Prop
 | .val x,v=>aH ER S w x.av v
 | .fj sz rows,v=>Kh R rows.length v/\eA ER S w 0 R (.rows sz rows false false)
 | .own sz rows,v=>Kh R rows.length v/\eA ER S w 0 R (.rows sz rows true false)
 | .ref cells,v=>v=.pointer (some ⟨R.cb,R.co,none⟩)/\eA ER S w 0 R (.var (cells.map .t))
 | .dy _ _,_=>True
 | .gh cells,v=>v=.pointer (some ⟨R.cb,R.co,none⟩)/\eA ER S w 0 R (.var (cells.map .t))
def βA (args:List Arg) (Rs:Nat->bR):Nat->Option bR:=fun i=>if((args[i]?).bind Arg.au).isSome then some (Rs i) else none
def VR (S:Place) (w:World) (R:bR):RC->Value->Prop
 | .val x,v=>aH ER S w x.av v
 | .own sz rows,v=>Kh R rows.length v/\eA ER S w 0 R (.rows sz rows true false)
def m8 (args:List Arg) (Rs:Nat->bR):Place:=fun c o=>∃(i:Nat) (arg:Arg) (au:aC),args[i]?=some arg/\arg.au=some au/\au.ext (Rs i) c o
structure oj (args:List Arg) (S:Place) (w:World) (aT:List Value) (Rs:Nat->bR):Prop where
 len:aT.length=args.length
 ok:∀(i:Nat) (arg:Arg),args[i]?=some arg->∃v,aT[i]?=some v/\Rf S w (Rs i) arg v
 sN:∀c o,S c o->c<w.heap.size
 ext:∀(i:Nat) (arg:Arg) (au:aC),args[i]?=some arg->arg.au=some au->(∀c o,au.ext (Rs i) c o->c<w.heap.size)/\(∀c o,au.wr (Rs i) c o->¬S c o)
 mz:∀(i j:Nat) (x y:Arg) (b b':aC),i≠j->args[i]?=some x->args[j]?=some y->x.au=some b->y.au=some b'->∀c o,b.ext (Rs i) c o->¬b'.ext (Rs j) c o
 dy:∀(i:Nat) (f:FuncId) (aK:List (Nat×Nat×Nat)) (v:Value),args[i]?=some (.dy f aK)->aT[i]?=some v->dq (βA args Rs) S w (.dy f aK) v
structure fK (args:List Arg) (res:mB) (S:Place) (w:World) (Rs:Nat->bR) (v:Value) (w':World):Prop where
 p:∃(S':Place) (Rr:Nat->bR) (vs:List Value),vs.length=res.aT.length/\v=(if vs.length=1 then vs.getD 0 undef else .tuple vs.toArray) /\
  fh (m8 args Rs) w w'/\(∀c o,S c o->S' c o)/\(∀c o,S' c o->S c o∨(c<w'.heap.size/\(w.heap.size<=c∨m8 args Rs c o))) /\
  (∀(k:Nat) (r:RC),res.aT[k]?=some r->∃u,vs[k]?=some u/\VR S' w' (Rr k) r u) /\
  (∀(k sz:Nat) (rows:List (List Tree)),res.aT[k]?=some (.own sz rows)->(∀c o,(aC.rows sz rows true false).ext (Rr k) c o->c<w'.heap.size/\(w.heap.size<=c∨m8 args Rs c o))/\(∀c o,(aC.rows sz rows true false).wr (Rr k) c o->¬S' c o)) /\
  (∀(k l sz kX:Nat) (rows dv:List (List Tree)),k≠l->res.aT[k]?=some (.own sz rows)->res.aT[l]?=some (.own kX dv)->∀c o,(aC.rows sz rows true false).ext (Rr k) c o->¬(aC.rows kX dv true false).ext (Rr l) c o) /\
  (∀(i:Nat) (au:aC),res.out[i]?=some (some au)->∃arg b0,args[i]?=some arg/\arg.au=some b0/\(∀c o,au.ext (Rs i) c o->b0.ext (Rs i) c o)/\eA ER S' w' 0 (Rs i) au/\(∀c o,au.wr (Rs i) c o->¬S' c o) /\
   ∀(k sz:Nat) (rows:List (List Tree)),res.aT[k]?=some (.own sz rows)->∀c o,au.ext (Rs i) c o->¬(aC.rows sz rows true false).ext (Rr k) c o)
def ah (P:Program) (f:FuncId) (args:List Arg) (res:mB):Prop:=
 (∃fn,P.funcs[f]?=some fn/\fn.body.isSome=true/\(fn.name == "runtime.NumGoroutine")=false)/\∀(S:Place) (w:World) (aT:List Value) (Rs:Nat->bR),oj args S w aT Rs ->
  Calls P f (aT.take (kE args)).toArray w fun e w'=>∃v,e=.returned v/\fK args res S w Rs v w'
inductive bH where
 | none
 | fj (b off len:Nat)
 | own (b:Nat)
 | ref (b:Nat)
 deriving Inhabited
def wC (h:Hp):AV->Option (TV×List (Nat×Option aC))
 | .c c=>(toTree h c).map fun p=>(.c p.1,p.2)
 | .agg l=>(bL h l).map fun p=>(.agg p.1,p.2)
 | _=>none
def ez (h:Hp):Mode->AV->Option (Arg×List (Nat×Option aC)×bH)
 | .val,.c (.dy f aK)=>some (.dy f aK,[],.none)
 | .val,x=>(wC h x).map fun p=>(.val p.1,p.2,.none)
 | .fj,.c (.sl b off len false)=>match h b with
  | some (.rows sz rows _ false)=>if off+len<=rows.length then some (.fj sz ((rows.drop off).take len),[],.fj b off len) else none
  | _=>none
 | .own sz,.c (.sl b 0 len false)=>match h b with
  | some (.rows kX rows true false)=>if kX=sz/\len=rows.length then some (.own sz rows,[],.own b) else none
  | _=>none
 | .own sz,.c (.t (.aa true []))=>some (.own sz [],[],.none)
 | .rd,.c (.sl b off len false)=>match h b with
  | some (.rows sz rows _ false)=>if off+len<=rows.length then some (.fj sz ((rows.drop off).take len),[],.fj b off len) else none
  | _=>none
 | .rd,x=>(wC h x).map fun p=>(.val p.1,p.2,.none)
 | .ref,.c (.ptr b 0 0)=>match h b with
  | some (.var cells)=>match bL h cells with
   | some (ts,[])=>some (.ref ts,[],.ref b)
   | _=>none
  | _=>none
 | _,_=>none
def ch (h:Hp):List Mode->List AV->Option (List Arg×List (Nat×Option aC)×List bH)
 | [],[]=>some ([],[],[])
 | m::ms,x::xs=>match ez h m x,ch h ms xs with
  | some (a,k,b),some (as,ks,bs)=>some (a::as,k++ks,b::bs)
  | _,_=>none
 | _,_=>none
def pN:List (Nat×Nat×Nat)->List Nat->List Nat
 | [],acc=>acc
 | (b,_,_)::l,acc=>match acc.contains b with
  | true=>pN l acc
  | false=>pN l (acc ++ [b])
def oY:List Arg->List Nat->List Nat
 | [],acc=>acc
 | .dy _ aK::as,acc=>oY as (pN aK acc)
 | _::as,acc=>oY as acc
def posOf (b:Nat):List Nat->Nat
 | []=>0
 | x::l=>match Nat.beq b x with
  | true=>0
  | false=>posOf b l+1
def CI (gs:List Nat) (n:Nat):List (Nat×Nat×Nat)->List (Nat×Nat×Nat)
 | []=>[]
 | (b,r,c)::l=>(n+posOf b gs,r,c)::CI gs n l
def pO (gs:List Nat) (n:Nat):List Arg->List Arg
 | []=>[]
 | .dy f aK::as=>.dy f (CI gs n aK)::pO gs n as
 | a::as=>a::pO gs n as
def kf (h:Hp):List Nat->Option (List Arg)
 | []=>some []
 | b::l=>match h b with
  | some (.var cells)=>match bL h cells,kf h l with
   | some (ts,[]),some as=>some (.gh ts::as)
   | _,_=>none
  | _=>none
def qZ:List Nat->List bH
 | []=>[]
 | b::l=>.ref b::qZ l
def eQ (h:Hp) (ms:List Mode) (xs:List AV):Option (List Arg×List (Nat×Option aC)×List bH):=
 match ch h ms xs with
 | none=>none
 | some (as,ks,bs)=>match oY as []with
  | []=>some (as,ks,bs)
  | g::gs=>match kf h (g::gs) with
   | some Aw=>some (pO (g::gs) as.length as++Aw,ks,bs++qZ (g::gs))
   | none=>none
def bH.id:bH->Option Nat
 | .none=>Option.none
 | .fj b _ _=>some b
 | .own b=>some b
 | .ref b=>some b
def dz (h:Hp):List bH->List (Option aC)->Option (List (Nat×Option aC))
 | [],[]=>some []
 | .none::bs,_::os=>dz h bs os
 | .own b::bs,_::os=>(dz h bs os).map ((b,none) :: ·)
 | .fj b off len::bs,some (.rows sz r false false)::os=>match h b with
  | some (.rows kX rows g false)=>if kX=sz/\r.length=len then(dz h bs os).map ((b,some (.rows kX (aX rows off r) g false)) :: ·) else none
  | _=>none
 | .ref b::bs,some (.var cs)::os=>match h b with
  | some (.var gB)=>if cs.length=gB.length then(dz h bs os).map ((b,some (.var cs)) :: ·) else none
  | _=>none
 | _,_=>none
def TV.scalar:TV->Bool
 | .c (.v _)=>true
 | .agg l=>l.all fun|.v _=>true|_=>false
 | _=>false
def RC.scalar:RC->Bool
 | .val x=>x.scalar
 | _=>false
def dW (slot:Nat):List RC->List AV×List (Nat×Option aC)
 | []=>([],[])
 | .val x::rs=>let p:=dW slot rs;(x.av::p.1,p.2)
 | .own sz rows::rs=>let p:=dW (slot+1) rs;(.c (.sl slot 0 rows.length false)::p.1,(slot,some (.rows sz rows true false))::p.2)
def Ho (l:List AV):AV:=match l with
 | [x]=>x
 | l=>.pD l
def RC.na:RC->Bool
 | .own _ _=>true
 | _=>false
def gG (h:Hp) (slot:Nat) (marks:List (Nat×Option aC)) (dQ:List bH) (res:mB):Option bW:=
 let ids:=dQ.filterMap bH.id
 if(res.aT.all RC.scalar)&&ids.isEmpty then some { val:=Ho (dW slot res.aT).1,rd:=Go.Abs.ids marks }
 else if !(ids.all fun i=>!((Go.Abs.ids marks).contains i)) || !decide ids.Nodup || !decide ((res.aT.filter RC.na).length<=2) then none
 else match dz h dQ res.out with
  | some bw=>some { val:=Ho (dW slot res.aT).1,wr:=marks++bw++(dW slot res.aT).2,rd:=Go.Abs.ids marks++ids }
  | none=>none
section
variable {P:Program} {C:eh} {K:Ctx} {β:Nat->Option bR} {S:Place} {st:St} {a:Act} {w:World} {slot:Nat} {e:bW} {o:Oper} {f:FuncId}
inductive ju (β:Nat->Option bR) (heap:bM) (S:Place) (w:World):Arg->bH->bR->Value->Prop where
 | val {x:TV} {R:bR} {v:Value}:aH ER S w x.av v->ju β heap S w (.val x) .none R v
 | fj {sz b off len:Nat} {rows:List (List Tree)} {g:Bool} {R:bR} {v:Value}:look heap b=some (.rows sz rows g false)->β b=some R->off+len<=rows.length ->
   Kh ⟨R.cb,R.co+off*R.ai,R.ai,R.cap-off⟩ len v->ju β heap S w (.fj sz ((rows.drop off).take len)) (.fj b off len) ⟨R.cb,R.co+off*R.ai,R.ai,R.cap-off⟩ v
 | own {sz b:Nat} {rows:List (List Tree)} {R:bR} {v:Value}:look heap b=some (.rows sz rows true false)->β b=some R->Kh R rows.length v->ju β heap S w (.own sz rows) (.own b) R v
 | nil {sz:Nat} {v:Value}:Kh ⟨0,0,sz,0⟩ 0 v->ju β heap S w (.own sz []) .none ⟨0,0,sz,0⟩ v
 | ref {b:Nat} {ts:List Tree} {R:bR} {v:Value}:look heap b=some (.var (ts.map .t))->β b=some R->v=.pointer (some ⟨R.cb,R.co,none⟩)->ju β heap S w (.ref ts) (.ref b) R v
 | dy {f:FuncId} {aK:List (Nat×Nat×Nat)} {R:bR} {v:Value}:ju β heap S w (.dy f aK) .none R v
 | gh {b:Nat} {ts:List Tree} {R:bR} {v:Value}:look heap b=some (.var (ts.map .t))->β b=some R->v=.pointer (some ⟨R.cb,R.co,none⟩)->ju β heap S w (.gh ts) (.ref b) R v
theorem ju.mono {heap:bM} {S S':Place} {x:Arg} {b:bH} {R:bR} {v:Value} (h:ju β heap S w x b R v) (hS:∀c o,S c o->S' c o):ju β heap S' w x b R v:=by
 cases h with
 | val h=>exact .val (h.mono (fun _ _ hx=>hx) hS fun _ _ _=>rfl)
 | fj h1 h2 h3 h4=>exact .fj h1 h2 h3 h4
 | own h1 h2 h3=>exact .own h1 h2 h3
 | nil h1=>exact .nil h1
 | ref h1 h2 h3=>exact .ref h1 h2 h3
 | dy=>exact .dy
 | gh h1 h2 h3=>exact .gh h1 h2 h3
theorem ES {cur:bM} (h:Sat K β S ⟨st.tmps,cur⟩ a w) (hm:eF st.heap cur) {x:AV} {v:Value} (hx:aH β S w x v) {tv:TV} {m:List (Nat×Option aC)} (ht:wC (look st.heap) x=some (tv,m)) :
  ∃S',(∀c o,S c o->S' c o)/\Sat K β S' ⟨st.tmps,eK cur m⟩ a w/\eF st.heap (eK cur m)/\aH ER S' w tv.av v:=by
 unfold wC at ht;split at ht
 ·obtain⟨p,h1,h2⟩:=Option.map_eq_some_iff.1 ht
  cases h2;cases hx with|c hx=>
  obtain⟨S',e1,e2,e3,e4⟩:=pL h hm hx h1;exact⟨S',e1,e2,e3,.c (.t e4)⟩
 ·obtain⟨p,h1,h2⟩:=Option.map_eq_some_iff.1 ht
  cases h2;obtain⟨vs,rfl,hl,hr⟩:=hx.Cr;obtain⟨S',e1,e2,e3,e4,e5⟩:=gk _ vs cur S _ _ h hm hl hr h1;refine⟨S',e1,e2,e3,.agg vs (by simp[TV.av,e4,hl]) fun i c hi=>?_⟩;obtain⟨t,ht,rfl⟩:=qT hi;obtain⟨u,q1,q2⟩:=e5 i t ht;exact⟨u,q1,.t q2⟩
 ·cases ht
theorem VS {h:Hp}:∀ {cs:List Cell} {ts:List Tree} {m:List (Nat×Option aC)},bL h cs=some (ts,m)->m=[]->cs=ts.map .t
 | [],ts,m,h1,_=>by simp[bL]at h1;rw[h1.1];rfl
 | c::cs,ts,m,h1,hm=>by
  unfold bL at h1;split at h1
  ·rename_i t m1 ht
   split at h1
   ·rename_i Pj m2 uv
    cases h1;simp at hm;have:=VS uv hm.2;subst this;unfold toTree at ht;split at ht
    ·cases ht;rfl
    ·split at ht
     ·split at ht
      ·cases ht;simp at hm
      ·cases ht
     ·cases ht
    ·cases ht
   ·cases h1
  ·cases h1
theorem ET {cur:bM} (h:Sat K β S ⟨st.tmps,cur⟩ a w) (h0:∀b au,look st.heap b=some au->∃R,β b=some R) (hm:eF st.heap cur) {md:Mode} {x:AV} {v:Value} (hx:aH β S w x v) {arg:Arg} {m:List (Nat×Option aC)} {bk:bH} (ht:ez (look st.heap) md x=some (arg,m,bk)) :
  ∃S' R,(∀c o,S c o->S' c o)/\Sat K β S' ⟨st.tmps,eK cur m⟩ a w/\eF st.heap (eK cur m)/\ju β st.heap S' w arg bk R v:=by
 unfold ez at ht;split at ht
 ·cases ht
  exact⟨S,⟨0,0,0,0⟩,fun _ _ hx=>hx,h,hm,.dy⟩
 ·obtain⟨p,h1,h2⟩:=Option.map_eq_some_iff.1 ht
  cases h2;obtain⟨S',e1,e2,e3,e4⟩:=ES h hm hx h1;exact⟨S',⟨0,0,0,0⟩,e1,e2,e3,.val e4⟩
 ·rename_i b off len
  split at ht
  ·rename_i sz rows g hb
   split at ht
   ·rename_i hle
    cases ht;cases hx with|c hx=>
    cases hx with|sl R base cap hR h1 h2 h3 h4 h5=>
    have hc:=h2 rfl;exact⟨S,_,fun _ _ hx=>hx,h,hm,.fj hb hR hle ⟨base,by simp;omega,fun h0=>h5 (by simp at h0;omega)⟩⟩
   ·cases ht
  ·cases ht
 ·rename_i sz b len
  split at ht
  ·rename_i kX rows hb
   split at ht
   ·rename_i hc
    obtain⟨rfl,rfl⟩:=hc;cases ht;cases hx with|c hx=>
    cases hx with|sl R base cap hR h1 h2 h3 h4 h5=>
    have hc:=h2 rfl;rw[Nat.zero_add]at hc;exact⟨S,_,fun _ _ hx=>hx,h,hm,.own hb hR ⟨base,by rw[hc],fun h0=>by have:=h5 (by omega);simpa using this⟩⟩
   ·cases ht
  ·cases ht
 ·rename_i sz
  cases ht;cases hx with|c hx=>
  cases hx with|t hx=>
  generalize hr:([]:List (List Tree))=rows at hx;cases hx with|aa _ _ base cb co ai cap val h1 h2 h3 h4 h5 Q4 h6 h7 h8=>
  subst hr;refine⟨S,_,fun _ _ hx=>hx,h,hm,.nil ⟨base,?_,by simp⟩⟩;simp[h4 rfl]
 ·rename_i b off len
  split at ht
  ·rename_i sz rows g hb
   split at ht
   ·rename_i hle
    cases ht;cases hx with|c hx=>
    cases hx with|sl R base cap hR h1 h2 h3 h4 h5=>
    have hc:=h2 rfl;exact⟨S,_,fun _ _ hx=>hx,h,hm,.fj hb hR hle ⟨base,by simp;omega,fun h0=>h5 (by simp at h0;omega)⟩⟩
   ·cases ht
  ·cases ht
 ·obtain⟨p,h1,h2⟩:=Option.map_eq_some_iff.1 ht
  cases h2;obtain⟨S',e1,e2,e3,e4⟩:=ES h hm hx h1;exact⟨S',⟨0,0,0,0⟩,e1,e2,e3,.val e4⟩
 ·rename_i b
  split at ht
  ·rename_i cells hb
   split at ht
   ·rename_i ts uv
    cases ht;cases hx with|c hx=>
    cases hx with|ptr R hR=>
    have:=VS uv rfl;subst this;exact⟨S,R,fun _ _ hx=>hx,h,hm,.ref hb hR (by simp)⟩
   ·cases ht
  ·cases ht
 ·cases ht
theorem lx (h0:∀b au,look st.heap b=some au->∃R,β b=some R):∀(ms:List Mode) (xs:List AV) (aT:List Value) (cur:bM) (S:Place) (args:List Arg) (m:List (Nat×Option aC)) (dQ:List bH),Sat K β S ⟨st.tmps,cur⟩ a w->eF st.heap cur ->
  aT.length=xs.length->(∀(i:Nat) (x:AV),xs[i]?=some x->∃v,aT[i]?=some v/\aH β S w x v)->ch (look st.heap) ms xs=some (args,m,dQ) ->
  ∃S',(∀c o,S c o->S' c o)/\Sat K β S' ⟨st.tmps,eK cur m⟩ a w/\eF st.heap (eK cur m)/\args.length=xs.length/\dQ.length=xs.length /\
   ∃Rs:Nat->bR,∀(i:Nat) (x:Arg),args[i]?=some x->∃b v,dQ[i]?=some b/\aT[i]?=some v/\ju β st.heap S' w x b (Rs i) v
 | [],[],aT,cur,S,args,m,dQ,h,hm,_,_,ht=>by
  simp[ch]at ht;obtain⟨rfl,rfl,rfl⟩:=ht;exact⟨S,fun _ _ hx=>hx,h,hm,rfl,rfl,fun _=>⟨0,0,0,0⟩,by simp⟩
 | [],_::_,_,_,_,_,_,_,_,_,_,_,ht=>by simp[ch]at ht
 | _::_,[],_,_,_,_,_,_,_,_,_,_,ht=>by simp[ch]at ht
 | md::ms,x::xs,[],_,_,_,_,_,_,_,hl,_,_=>by simp at hl
 | md::ms,x::xs,v::aT,cur,S,args,m,dQ,h,hm,hl,hr,ht=>by
  unfold ch at ht;split at ht
  ·rename_i a1 k1 b1 as ks bs h1 h2
   cases ht;obtain⟨v',sQ,hx⟩:=hr 0 x rfl;simp at sQ;subst sQ;obtain⟨S1,R1,e1,e2,e3,e4⟩:=ET h h0 hm hx h1;obtain⟨S2,f1,f2,f3,f4,f5,Rs,f6⟩:=lx h0 ms xs aT _ S1 _ _ _ e2 e3 (by simpa using hl) (fun i y hi=>by
    obtain⟨u,q1,q2⟩:=hr (i+1) y (by simpa using hi);exact⟨u,by simpa using q1,q2.mono (fun _ _ hx=>hx) e1 fun _ _ _=>rfl⟩) h2
   refine⟨S2,fun c o hx=>f1 _ _ (e1 _ _ hx),by rw[GX];exact f2,by rw[GX];exact f3,by simp[f4],by simp[f5],fun i=>match i with|0=>R1|i+1=>Rs i,fun i y hi=>?_⟩;cases i with
   | zero=>simp at hi;subst hi;exact⟨b1,v,rfl,rfl,e4.mono f1⟩
   | succ i=>simpa using f6 i y (by simpa using hi)
  ·cases ht
theorem LR {b:Nat}:∀(m:List (Nat×Option aC)) (h:bM),b ∉ ids m->look (eK h m) b=look h b
 | [],_,_=>rfl
 | p::m,h,hn=>by
  simp only[ids,List.map_cons,List.mem_cons,not_or]at hn;rw[iJ,LR m _ hn.2,sZ hn.1]
theorem ju.uz {heap:bM} {x:Arg} {b:bH} {R:bR} {v:Value} (hl:ju β heap S w x b R v) (h:Sat K β S ⟨st.tmps,heap⟩ a w) :
  Rf S w R x v/\∀au,x.au=some au->(∃bi B RB,b.id=some bi/\look heap bi=some B/\β bi=some RB/\(∀c o,au.ext R c o->B.ext RB c o)/\(∀c o,au.wr R c o->B.wr RB c o))∨(b.id=none/\∀c o,¬au.ext R c o):=by
 cases hl with
 | val hv=>exact⟨hv,fun au hb=>by cases hb⟩
 | fj hb hR hle hs=>
  rename_i sz b off len rows g R0;obtain⟨R',e1,⟨q0,q1,q2,q3,SF,q4,q5,q6⟩,e4,e5⟩:=h.au _ _ hb;rw[hR]at e1;cases e1;have GY:((rows.drop off).take len).length=len:=by rw[List.length_take,List.length_drop];omega
  have An:(off+len)*R0.ai<=rows.length*R0.ai:=Nat.mul_le_mul_right _ hle;rw[Nat.add_mul]at An;have J7:rows.length*R0.ai<=(if g=true then R0.cap else rows.length)*R0.ai:=Nat.mul_le_mul_right _ (by split<;>omega);refine⟨⟨by rw[GY];exact hs,q0,(fun r hr=>q1 r (qU hr)),(by rw[GY];show len<=R0.cap-off;omega),(by show R0.cap-off<2^63;omega),(by rw[GY];omega),?_,fun i j t ht=>?_,by simp⟩,fun au pP=>?_⟩
  ·intro o h1 h2
   simp only[GY,Bool.false_eq_true,if_false]at h2;have Q5:R0.co+off*R0.ai<=o:=h1;have I4:o<R0.co+off*R0.ai+len*R0.ai:=h2;exact q4 o (by omega) (by omega)
  ·obtain⟨u,f1,f2⟩:=q5 _ _ _ (gF ht).2
   refine⟨u,?_,f2⟩;simp only;rw[Nat.add_mul,<-Nat.add_assoc]at f1;exact f1
  ·cases pP
   refine .inl ⟨_,_,R0,rfl,hb,hR,?_,?_⟩
   ·rintro c o ⟨h1,h2,h3⟩
    simp only[GY,Bool.false_eq_true,if_false]at h2 h3;exact⟨h1,by omega,by omega⟩
   ·rintro c o ⟨h1,h2,h3⟩
    simp only[GY,Bool.false_eq_true,if_false]at h2 h3;exact⟨h1,by simp;omega,by omega⟩
 | own hb hR hs=>
  obtain⟨R',e1,q,e4,e5⟩:=h.au _ _ hb;rw[hR]at e1;cases e1;refine⟨⟨hs,q⟩,fun au pP=>?_⟩;cases pP;exact .inl ⟨_,_,R,rfl,hb,hR,fun _ _ hx=>hx,fun _ _ hx=>hx⟩
 | nil hs=>
  refine⟨⟨hs,rfl,(fun r hr=>by cases hr),Nat.le_refl _,(by show 0<2^63;omega),(by show 0<2^60;omega),(fun o h1 h2=>absurd h2 (by simp)),(fun i j t ht=>by simp[fg]at ht),(fun hh=>by cases hh)⟩,fun au pP=>?_⟩;cases pP;refine .inr ⟨rfl,?_⟩
  rintro c o ⟨h1,h2,h3⟩
  simp at h3
 | ref hb hR hv=>
  obtain⟨R',e1,q,e4,e5⟩:=h.au _ _ hb;rw[hR]at e1;cases e1;refine⟨⟨hv,q.1,fun j c hj=>?_⟩,fun au pP=>?_⟩
  ·obtain⟨u,f1,f2⟩:=q.2 j c hj
   obtain⟨t,ht,rfl⟩:=qT hj;refine⟨u,f1,?_⟩;cases f2 with|t f2=>exact .t f2
  ·cases pP
   exact .inl ⟨_,_,R,rfl,hb,hR,fun _ _ hx=>hx,fun _ _ hx=>hx⟩
 | dy=>exact⟨trivial,fun au hb=>by cases hb⟩
 | gh hb hR hv=>
  obtain⟨R',e1,q,e4,e5⟩:=h.au _ _ hb;rw[hR]at e1;cases e1;refine⟨⟨hv,q.1,fun j c hj=>?_⟩,fun au pP=>?_⟩
  ·obtain⟨u,f1,f2⟩:=q.2 j c hj
   obtain⟨t,ht,rfl⟩:=qT hj;refine⟨u,f1,?_⟩;cases f2 with|t f2=>exact .t f2
  ·cases pP
   exact .inl ⟨_,_,R,rfl,hb,hR,fun _ _ hx=>hx,fun _ _ hx=>hx⟩
theorem pQ {heap:bM} {args:List Arg} {dQ:List bH} {aT:List Value} {Rs:Nat->bR} (h:Sat K β S ⟨st.tmps,heap⟩ a w) (hl:aT.length=args.length) (oO:(dQ.filterMap bH.id).Nodup)
  (kF:∀(i:Nat) (x:Arg),args[i]?=some x->∃b v,dQ[i]?=some b/\aT[i]?=some v/\ju β heap S w x b (Rs i) v)
  (Pn:∀(i:Nat) (f:FuncId) (aK:List (Nat×Nat×Nat)) (v:Value),args[i]?=some (.dy f aK)->aT[i]?=some v->dq (βA args Rs) S w (.dy f aK) v):oj args S w aT Rs:=by
 refine⟨hl,fun i x hi=>?_,h.sN,fun i x au hi hb=>?_,fun i j x y b b' Eh hi hj hb bK c o h1 h2=>?_,Pn⟩
 ·obtain⟨b,v,_,e2,e3⟩:=kF i x hi
  exact⟨v,e2,(e3.uz h).1⟩
 ·obtain⟨b,v,_,e2,e3⟩:=kF i x hi
  rcases(e3.uz h).2 au hb with⟨bi,B,RB,f1,f2,f3,f4,f5⟩|⟨_,f2⟩
  ·obtain⟨R',g1,_,g3,g4⟩:=h.au _ _ f2
   rw[f3]at g1;cases g1;exact⟨fun c o hx=>(g3 c o (f4 c o hx)).1,fun c o hx=>g4 c o (f5 c o hx)⟩
  ·exact⟨fun c o hx=>absurd hx (f2 c o),fun c o hx=>absurd (aC.fG hx) (f2 c o)⟩
 ·obtain⟨b1,v1,e0,_,e1⟩:=kF i x hi
  obtain⟨b2,v2,VT,_,e2⟩:=kF j y hj;rcases(e1.uz h).2 b hb with⟨bi,B,RB,f1,f2,f3,f4,f5⟩|⟨_,f⟩
  ·rcases(e2.uz h).2 b' bK with⟨bi',B',SQ,UK,f2',f3',f4',f5'⟩|⟨_,f⟩
   ·have cY:bi≠bi':=by
     rintro rfl
     have key:∀(l:List bH) (i j:Nat) (x y:bH),i<j->l[i]?=some x->l[j]?=some y->x.id=some bi->y.id=some bi->¬(l.filterMap bH.id).Nodup:=by
      intro l
      induction l with
      | nil=>intro i j x y _ hi _ _ _;simp at hi
      | cons z l ih=>
       intro i j x y bG hi hj hx hy oO;cases j with
       | zero=>omega
       | succ j=>
        cases i with
        | zero=>
         simp at hi hj;subst hi;rw[List.filterMap_cons,hx]at oO;simp only[List.nodup_cons]at oO;exact oO.1 (List.mem_filterMap.2 ⟨y,List.mem_of_getElem? hj,hy⟩)
        | succ i=>
         refine ih i j x y (by omega) (by simpa using hi) (by simpa using hj) hx hy ?_;rw[List.filterMap_cons]at oO;split at oO
         ·exact oO
         ·exact(List.nodup_cons.1 oO).2
     rcases Nat.lt_or_ge i j with bG|GL
     ·exact key dQ i j b1 b2 bG e0 VT f1 UK oO
     ·exact key dQ j i b2 b1 (by omega) VT e0 UK f1 oO
    exact h.mz bi bi' B B' RB SQ cY f2 f2' f3 f3' c o (f4 c o h1) (f4' c o h2)
   ·exact f c o h2
  ·exact f c o h1
end
section
variable {P:Program} {C:eh} {K:Ctx} {β:Nat->Option bR} {S:Place} {st:St} {a:Act} {w:World} {slot:Nat} {e:bW} {o:Oper} {f:FuncId}
theorem ju.heap {h1 h2:bM} {x:Arg} {b:bH} {R:bR} {v:Value} (hl:ju β h1 S w x b R v) (hh:∀bi,b.id=some bi->look h2 bi=look h1 bi):ju β h2 S w x b R v:=by
 cases hl with
 | val h=>exact .val h
 | fj e1 e2 e3 e4=>exact .fj (by rw[hh _ rfl];exact e1) e2 e3 e4
 | own e1 e2 e3=>exact .own (by rw[hh _ rfl];exact e1) e2 e3
 | nil h=>exact .nil h
 | ref e1 e2 e3=>exact .ref (by rw[hh _ rfl];exact e1) e2 e3
 | dy=>exact .dy
 | gh e1 e2 e3=>exact .gh (by rw[hh _ rfl];exact e1) e2 e3
theorem wD {l:List AV} {vs:List Value} (hl:vs.length=l.length) (hr:∀(i:Nat) (x:AV),l[i]?=some x->∃v,vs[i]?=some v/\aH β S w x v) :
  aH β S w (Ho l) (if vs.length=1 then vs.getD 0 undef else .tuple vs.toArray):=by
 unfold Ho;split
 ·rename_i x
  obtain⟨v,h1,h2⟩:=hr 0 x rfl;rw[if_pos (by simpa using hl)];simpa[List.getD,h1]using h2
 ·rename_i cY
  have:vs.length≠1:=by
   intro h1;rw[h1]at hl
   match l,hl with
   | [x],_=>exact cY x rfl
  rw[if_neg this];refine .pD vs (fun i=>vs.getD i undef) hl (fun i x hi=>?_) fun i x hi=>?_
  ·obtain⟨v,h1,h2⟩:=hr i x hi
   simp[List.getD,h1]
  ·obtain⟨v,h1,h2⟩:=hr i x hi
   simpa[List.getD,h1]using h2
theorem Hq {x:TV} (hx:x.scalar=true) {S':Place} {w':World} {v:Value} (h:aH ER S' w' x.av v):aH β S w x.av v:=by
 unfold TV.scalar at hx;split at hx
 ·obtain⟨rfl,h2⟩:=h.scalar
  exact .c (.t (.v _ h2))
 ·rename_i l
  obtain⟨vs,rfl,h1,h2⟩:=h.Cr;refine .agg vs h1 fun i c hi=>?_
  obtain⟨v,e1,e2⟩:=h2 i c hi;obtain⟨t,ht,rfl⟩:=qT hi;have:=List.all_eq_true.1 hx t (List.mem_of_getElem? ht);split at this
  ·refine⟨v,e1,.t ?_⟩
   cases e2 with|t e2=>cases e2 with|v _ h=>exact .v _ h
  ·cases this
 ·cases hx
theorem uA:∀(l:List RC) (slot:Nat),l.all RC.scalar=true->(dW slot l).1.length=l.length/\∀(i:Nat) (x:AV),(dW slot l).1[i]?=some x->∃tv:TV,l[i]?=some (.val tv)/\x=tv.av/\tv.scalar=true
 | [],_,_=>⟨rfl,by simp[dW]⟩
 | .val tv::l,slot,h=>by
  simp only[List.all_cons,Bool.and_eq_true]at h;obtain⟨h1,h2⟩:=uA l slot h.2;refine⟨by simp[dW,h1],fun i x hi=>?_⟩;cases i with
  | zero=>simp[dW]at hi;exact⟨tv,rfl,hi.symm,h.1⟩
  | succ i=>simpa using h2 i x (by simpa[dW]using hi)
 | .own _ _::l,slot,h=>by simp[RC.scalar]at h
theorem Sat.VU (h:Sat K β S st a w) (hs:slot<st.heap.length) (hf:β slot=none) {au:aC} {R:bR}
  (iU:eA (fun b=>if b=slot then some R else β b) S w K.B0 R au) (hx:∀c o,au.ext R c o->c<w.heap.size/\(K.B0<=c∨K.W c o)) (GV:∀c o,au.wr R c o->¬S c o)
  (aaQ:∀b db R',look st.heap b=some db->β b=some R'->∀c o,db.ext R' c o->¬au.ext R c o) :
  Sat K (fun b=>if b=slot then some R else β b) S ⟨st.tmps,st.heap.set slot (some au)⟩ a w:=by
 have hβ:∀b R',β b=some R'->(if b=slot then some R else β b)=some R':=by
  intro b R' hb;split
  ·rename_i wk;subst wk;rw[hf]at hb;cases hb
  ·exact hb
 refine h.step (Wr:=fun _ _=>False) (fun b=>b=slot) (fh.refl _ _) (fun _ _ hx=>hx.elim) hβ (fun b R' hb=>?_) (fun _ _ hx=>hx) (fun c o hc=>.inl hc) (fun b db hD hb=>?_) (fun b db hD hb=>?_)
 ·simp only[List.length_set]
  by_cases wk:b=slot
  ·omega
  ·rw[if_neg wk]at hb;exact h.top b R' hb
 ·rw[sZ hD]at hb;exact hb
 ·subst hD
  rw[Ap hs]at hb;cases hb;refine⟨R,by simp,iU,hx,GV,fun b' iI R' cY bK gW c o hy hz=>?_⟩;rw[sZ cY]at bK;rw[if_neg cY]at gW;exact aaQ b' iI R' bK gW c o hz hy
theorem eA.vE {β':Nat->Option bR} {B B':Nat} {R:bR} {ts:List Cell} (h:eA ER S w B R (.var ts)):eA β' S w B' R (.var ts):=
 ⟨h.1,fun j c hj=>by obtain⟨v,e1,e2⟩:=h.2 j c hj;exact⟨v,e1,e2.mono (fun _ _ hx=>by cases hx) (fun _ _ hx=>hx) fun _ _ _=>rfl⟩⟩
theorem wE:∀(l:List RC) (us:List Value) (k0:Nat) (Rr:Nat->bR) (slot:Nat) (β:Nat->Option bR) (heap:bM),Sat K β S ⟨st.tmps,heap⟩ a w ->
  us.length=l.length->(∀(k:Nat) (r:RC),l[k]?=some r->∃u,us[k]?=some u/\VR S w (Rr (k0+k)) r u) ->
  slot+(l.filter RC.na).length<=heap.length->(∀b,slot<=b->b<slot+(l.filter RC.na).length->β b=none) ->
  (∀(k sz:Nat) (rows:List (List Tree)),l[k]?=some (.own sz rows)->(∀c o,(aC.rows sz rows true false).ext (Rr (k0+k)) c o->c<w.heap.size/\(K.B0<=c∨K.W c o))/\(∀c o,(aC.rows sz rows true false).wr (Rr (k0+k)) c o->¬S c o)) ->
  (∀(k j sz kX:Nat) (rows dv:List (List Tree)),k≠j->l[k]?=some (.own sz rows)->l[j]?=some (.own kX dv)->∀c o,(aC.rows sz rows true false).ext (Rr (k0+k)) c o->¬(aC.rows kX dv true false).ext (Rr (k0+j)) c o) ->
  (∀(k sz:Nat) (rows:List (List Tree)),l[k]?=some (.own sz rows)->∀b db R',look heap b=some db->β b=some R'->∀c o,db.ext R' c o->¬(aC.rows sz rows true false).ext (Rr (k0+k)) c o) ->
  ∃β',(∀b,b<slot∨slot+(l.filter RC.na).length<=b->β' b=β b)/\(∀b R,β b=some R->β' b=some R)/\Sat K β' S ⟨st.tmps,eK heap (dW slot l).2⟩ a w /\
   (dW slot l).1.length=l.length/\∀(i:Nat) (x:AV),(dW slot l).1[i]?=some x->∃u,us[i]?=some u/\aH β' S w x u
 | [],us,k0,Rr,slot,β,heap,h,_,_,_,_,_,_,_=>⟨β,fun _ _=>rfl,fun _ _ hx=>hx,h,rfl,by simp[dW]⟩
 | r::l,[],_,_,_,_,_,_,hl,_,_,_,_,_,_=>by simp at hl
 | r::l,u::us,k0,Rr,slot,β,heap,h,hl,hr,hlen,hf,hx,VV,hd=>by
  obtain⟨u',YJ,YK⟩:=hr 0 r rfl;simp at YJ;subst YJ;have shift:∀k,k0+(k+1)=k0+1+k:=fun k=>by omega
  cases r with
  | val tv=>
   obtain⟨β',e1,VC,e2,e3,e4⟩:=wE l us (k0+1) Rr slot β heap h (by simpa using hl) (fun k r hk=>by
    obtain⟨u,q1,q2⟩:=hr (k+1) r (by simpa using hk);exact⟨u,by simpa using q1,by rw[<-shift];exact q2⟩) (by simpa[RC.na]using hlen) (by simpa[RC.na]using hf) (fun k sz rows hk=>by rw[<-shift];exact hx (k+1) sz rows (by simpa using hk))
    (fun k j sz kX rows dv cY hk hj=>by rw[<-shift,<-shift];exact VV (k+1) (j+1) sz kX rows dv (by omega) (by simpa using hk) (by simpa using hj))
    (fun k sz rows hk=>by rw[<-shift];exact hd (k+1) sz rows (by simpa using hk))
   refine⟨β',by simpa[RC.na]using e1,VC,e2,by simp[dW,e3],fun i x hi=>?_⟩;cases i with
   | zero=>
    simp[dW]at hi;subst hi;exact⟨u,rfl,aH.mono YK (fun _ _ hx=>by cases hx) (fun _ _ hx=>hx) fun _ _ _=>rfl⟩
   | succ i=>simpa using e4 i x (by simpa[dW]using hi)
  | own sz rows=>
   simp only[List.filter_cons,RC.na,if_true,List.length_cons]at hlen hf;obtain⟨h1,h2⟩:=hx 0 sz rows rfl;have GN:=hf slot (Nat.le_refl _) (by omega);have h3:=h.VU (slot:=slot) (by show slot<heap.length;omega) GN (au:=.rows sz rows true false) (R:=Rr (k0+0)) YK.2 h1 h2 (hd 0 sz rows rfl);obtain⟨β',e1,VC,e2,e3,e4⟩:=wE l us (k0+1) Rr (slot+1) _ _ h3 (by simpa using hl) (fun k r hk=>by
    obtain⟨u,q1,q2⟩:=hr (k+1) r (by simpa using hk);exact⟨u,by simpa using q1,by rw[<-shift];exact q2⟩) (by simp;omega) (fun b hb mX=>by simp only[if_neg (show b≠slot by omega)];exact hf b (by omega) (by omega)) (fun k sz rows hk=>by rw[<-shift];exact hx (k+1) sz rows (by simpa using hk))
    (fun k j sz kX rows dv cY hk hj=>by rw[<-shift,<-shift];exact VV (k+1) (j+1) sz kX rows dv (by omega) (by simpa using hk) (by simpa using hj))
    (fun k kX dv hk b db R' hb hR c o hy=>by
     rw[<-shift]
     by_cases wk:b=slot
     ·subst wk
      rw[Ap (by show b<heap.length;omega)]at hb;cases hb;simp only[if_true]at hR;cases hR;exact VV 0 (k+1) sz kX rows dv (by omega) rfl (by simpa using hk) c o hy
     ·rw[sZ wk]at hb
      rw[if_neg wk]at hR;exact hd (k+1) kX dv (by simpa using hk) b db R' hb hR c o hy)
   have Kb:∀b R,β b=some R->β' b=some R:=fun b R hb=>VC b R (by rw[if_neg (by rintro rfl;rw[GN]at hb;cases hb)];exact hb)
   refine⟨β',fun b hb=>?_,Kb,e2,by simp[dW,e3],fun i x hi=>?_⟩
   ·simp only[List.filter_cons,RC.na,if_true,List.length_cons]at hb
    rw[e1 b (by omega),if_neg (by omega)]
   ·cases i with
    | zero=>
     simp[dW]at hi;subst hi;obtain⟨base,q1,q2⟩:=YK.1;refine⟨u,rfl,?_⟩;rw[q1];have hle:rows.length<=(Rr (k0+0)).cap:=YK.2.2.2.1;exact .c (.sl (Rr (k0+0)) base _ (VC _ _ (by simp)) (fun hh=>by cases hh) (fun _=>by omega) hle (by omega) (fun h0=>by simpa using q2 h0))
    | succ i=>simpa using e4 i x (by simpa[dW]using hi)
end
def tg (h:Hp) (h':bM):bH->Option aC->Prop
 | .none,_=>True
 | .own b,_=>look h' b=none
 | .fj b off len,o=>∃sz r rows g,o=some (.rows sz r false false)/\h b=some (.rows sz rows g false)/\r.length=len/\look h' b=some (.rows sz (aX rows off r) g false)
 | .ref b,o=>∃cs gB,o=some (.var cs)/\h b=some (.var gB)/\cs.length=gB.length/\look h' b=some (.var cs)
theorem tg.heap {h:Hp} {h1 h2:bM} {b:bH} {o:Option aC} (hb:tg h h1 b o) (he:∀i,b.id=some i->look h2 i=look h1 i):tg h h2 b o:=by
 cases b with
 | none=>trivial
 | own b=>show look h2 b=none;rw[he b rfl];exact hb
 | fj b off len=>obtain⟨sz,r,rows,g,e1,e2,e3,e4⟩:=hb;exact⟨sz,r,rows,g,e1,e2,e3,by rw[he b rfl];exact e4⟩
 | ref b=>obtain⟨cs,gB,e1,e2,e3,e4⟩:=hb;exact⟨cs,gB,e1,e2,e3,by rw[he b rfl];exact e4⟩
theorem nc {h:Hp}:∀(dQ:List bH) (outs:List (Option aC)) (bw:List (Nat×Option aC)) (heap:bM),dz h dQ outs=some bw->(dQ.filterMap bH.id).Nodup->(∀i∈dQ.filterMap bH.id,i<heap.length) ->
  outs.length=dQ.length/\(∀i,i ∉ dQ.filterMap bH.id->look (eK heap bw) i=look heap i)/\∀(i:Nat) (b:bH),dQ[i]?=some b->∃o,outs[i]?=some o/\tg h (eK heap bw) b o
 | [],[],bw,heap,hb,_,_=>by
  simp[dz]at hb;subst hb;exact⟨rfl,fun _ _=>rfl,by simp⟩
 | [],_::_,_,_,hb,_,_=>by simp[dz]at hb
 | b::dQ,[],_,_,hb,_,_=>by cases b<;>simp[dz]at hb
 | b::dQ,o::outs,bw,heap,hb,oO,bG=>by
  have Mu:∀(bi:Nat) (x:Option aC) (OH:List (Nat×Option aC)),b.id=some bi->dz h dQ outs=some OH->bw=(bi,x)::OH->(∀h',look h' bi=x->tg h h' b o) ->
    (o::outs).length=(b::dQ).length/\(∀i,i ∉ (b::dQ).filterMap bH.id->look (eK heap bw) i=look heap i)/\∀(i:Nat) (b':bH),(b::dQ)[i]?=some b'->∃o',(o::outs)[i]?=some o'/\tg h (eK heap bw) b' o':=by
   rintro bi x OH Ki hbw rfl UL
   rw[List.filterMap_cons,Ki]at oO bG;simp only[List.nodup_cons,List.mem_cons,forall_eq_or_imp]at oO bG;obtain⟨h1,h2,h3⟩:=nc dQ outs OH (heap.set bi x) hbw oO.2 (fun i hi=>by simpa using bG.2 i hi);rw[iJ];refine⟨by simp[h1],fun i hi=>?_,fun i b' hi=>?_⟩
   ·rw[List.filterMap_cons,Ki]at hi
    simp only[List.mem_cons,not_or]at hi;rw[h2 i hi.2,sZ hi.1]
   ·cases i with
    | zero=>
     simp at hi;subst hi;exact⟨o,rfl,UL _ (by rw[h2 bi oO.1,Ap bG.1])⟩
    | succ i=>simpa using h3 i b' (by simpa using hi)
  cases b with
  | none=>
   simp only[dz]at hb;rw[List.filterMap_cons]at oO bG;obtain⟨h1,h2,h3⟩:=nc dQ outs bw heap hb (by simpa[bH.id]using oO) (by simpa[bH.id]using bG);refine⟨by simp[h1],fun i hi=>h2 i (by simpa[List.filterMap_cons,bH.id]using hi),fun i b' hi=>?_⟩;cases i with
   | zero=>simp at hi;subst hi;exact⟨o,rfl,trivial⟩
   | succ i=>simpa using h3 i b' (by simpa using hi)
  | own b=>
   simp only[dz]at hb;obtain⟨OH,h1,h2⟩:=Option.map_eq_some_iff.1 hb;exact Mu b none OH rfl h1 h2.symm fun h' hl=>hl
  | fj b off len=>
   unfold dz at hb;split at hb<;>try (cases hb;done)
   all_goals (rename_i Mv SR;try (cases Mv;done))
   ·cases Mv;cases SR
    split at hb
    ·rename_i kX rows g gT
     split at hb
     ·rename_i hc
      obtain⟨rfl,yx⟩:=hc;obtain⟨OH,h1,h2⟩:=Option.map_eq_some_iff.1 hb;exact Mu b _ OH rfl h1 h2.symm fun h' hl=>⟨_,_,_,_,rfl,gT,yx,hl⟩
     ·cases hb
    ·cases hb
  | ref b=>
   unfold dz at hb;split at hb<;>try (cases hb;done)
   all_goals (rename_i Mv SR;try (cases Mv;done))
   ·cases Mv;cases SR
    split at hb
    ·rename_i gB gT
     split at hb
     ·rename_i hc
      obtain⟨OH,h1,h2⟩:=Option.map_eq_some_iff.1 hb;exact Mu b _ OH rfl h1 h2.symm fun h' hl=>⟨_,_,rfl,gT,hc,hl⟩
     ·cases hb
    ·cases hb
section
variable {P:Program} {C:eh} {K:Ctx} {β:Nat->Option bR} {S:Place} {st:St} {a:Act} {w:World} {slot:Nat} {e:bW} {o:Oper} {f:FuncId}
theorem Ax {bi:Nat}:∀(l:List bH) (i j:Nat) (x y:bH),(l.filterMap bH.id).Nodup->l[i]?=some x->l[j]?=some y->x.id=some bi->y.id=some bi->i=j
 | [],i,_,x,_,_,hi,_,_,_=>by simp at hi
 | z::l,i,j,x,y,oO,hi,hj,hx,hy=>by
  have tail:(l.filterMap bH.id).Nodup:=by
   rw[List.filterMap_cons]at oO;split at oO
   ·exact oO
   ·exact(List.nodup_cons.1 oO).2
  have head:∀(k:Nat) (u:bH),l[k]?=some u->u.id=some bi->z.id=some bi->False:=by
   intro k u hk hu hz;rw[List.filterMap_cons,hz]at oO;exact(List.nodup_cons.1 oO).1 (List.mem_filterMap.2 ⟨u,List.mem_of_getElem? hk,hu⟩)
  cases i with
  | zero=>
   cases j with
   | zero=>rfl
   | succ j=>simp at hi hj;subst hi;exact(head j y hj hy hx).elim
  | succ i=>
   cases j with
   | zero=>simp at hi hj;subst hj;exact(head i x hi hx hy).elim
   | succ j=>rw[Ax l i j x y tail (by simpa using hi) (by simpa using hj) hx hy]
theorem fh.there {W:Place} {w w':World} (h:fh W w w') {cb co n:Nat} (ht:there w cb co n):there w' cb co n:=by
 intro o h1 h2;obtain⟨e1,e2⟩:=ht o h1 h2;unfold World.cell? at e1;unfold World.frozen? at e2;cases hg:w.heap[cb]? with
 | none=>rw[hg]at e1;simp at e1
 | some ob=>
  cases ob with
  | cells c el fr=>
   obtain⟨c',f1,f2,f3⟩:=h.obj cb _ hg;simp only[hg]at e1 e2;unfold World.cell? World.frozen?;simp only[f1];refine⟨?_,e2⟩;simp only[Option.isSome_none,Bool.false_eq_true,if_false]at e1 ⊢;have bG:o<c.size:=by
    rcases Nat.lt_or_ge o c.size with h|h
    ·exact h
    ·rw[Array.getElem?_eq_none h]at e1;cases e1
   rw[Array.getElem?_eq_getElem (by omega)];rfl
  | _=>rw[hg]at e1;simp at e1
theorem ra {h:Hp}:∀ {ms:List Mode} {xs:List AV} {as:List Arg} {ks:List (Nat×Option aC)} {bs:List bH},ch h ms xs=some (as,ks,bs) ->
  as.length=xs.length/\(∀x∈as,∀ts,x ≠ .gh ts)/\∀(i:Nat) (f:FuncId) (aK:List (Nat×Nat×Nat)),as[i]?=some (.dy f aK)->xs[i]?=some (.c (.dy f aK))
 | [],[],as,ks,bs,ht=>by simp[ch]at ht;obtain⟨rfl,rfl,rfl⟩:=ht;exact⟨rfl,by simp,by simp⟩
 | [],_::_,_,_,_,ht=>by simp[ch]at ht
 | _::_,[],_,_,_,ht=>by simp[ch]at ht
 | md::ms,x::xs,as,ks,bs,ht=>by
  unfold ch at ht;split at ht
  ·rename_i a1 k1 b1 as1 ks1 bs1 h1 h2
   cases ht;obtain⟨e1,e2,e3⟩:=ra h2;have key:(∀ts,a1 ≠ .gh ts)/\∀f aK,a1=.dy f aK->x=.c (.dy f aK):=by
    unfold ez at h1;split at h1
    ·cases h1;exact⟨fun ts h=>(by cases h),fun f aK h=>by cases h;rfl⟩
    ·obtain⟨p,_,q⟩:=Option.map_eq_some_iff.1 h1
     cases q;exact⟨fun ts h=>(by cases h),fun f aK h=>by cases h⟩
    ·split at h1
     ·split at h1
      ·cases h1;exact⟨fun ts h=>(by cases h),fun f aK h=>by cases h⟩
      ·cases h1
     ·cases h1
    ·split at h1
     ·split at h1
      ·cases h1;exact⟨fun ts h=>(by cases h),fun f aK h=>by cases h⟩
      ·cases h1
     ·cases h1
    ·cases h1;exact⟨fun ts h=>(by cases h),fun f aK h=>by cases h⟩
    ·split at h1
     ·split at h1
      ·cases h1;exact⟨fun ts h=>(by cases h),fun f aK h=>by cases h⟩
      ·cases h1
     ·cases h1
    ·obtain⟨p,_,q⟩:=Option.map_eq_some_iff.1 h1
     cases q;exact⟨fun ts h=>(by cases h),fun f aK h=>by cases h⟩
    ·split at h1
     ·split at h1
      ·cases h1;exact⟨fun ts h=>(by cases h),fun f aK h=>by cases h⟩
      ·cases h1
     ·cases h1
    ·cases h1
   refine⟨by simp[e1],fun y hy=>?_,fun i f aK hi=>?_⟩
   ·rcases List.mem_cons.1 hy with rfl|hy
    ·exact key.1
    ·exact e2 y hy
   ·cases i with
    | zero=>simp at hi;simp[key.2 f aK hi]
    | succ i=>simpa using e3 i f aK (by simpa using hi)
  ·cases ht
theorem CJ:∀ {as:List Arg},(∀x∈as,∀ts,x ≠ .gh ts)->kE as=as.length
 | [],_=>rfl
 | x::as,h=>by
  have h1:=h x (.head _);have h2:=CJ fun y hy=>h y (.tail _ hy)
  cases x with
  | gh ts=>exact absurd rfl (h1 ts)
  | _=>simp[kE,h2]
theorem I8:∀ {as:List Arg} {ts:List Tree} {l:List Arg},(∀x∈as,∀ts,x ≠ .gh ts)->kE (as ++ .gh ts::l)=as.length
 | [],ts,l,_=>rfl
 | x::as,ts,l,h=>by
  have h1:=h x (.head _);have h2:=I8 (ts:=ts) (l:=l) fun y hy=>h y (.tail _ hy)
  cases x with
  | gh ts=>exact absurd rfl (h1 ts)
  | _=>simp[kE,h2]
theorem pR:∀(l:List (Nat×Nat×Nat)) (acc:List Nat),(∀b∈acc,b∈pN l acc)/\∀p∈l,p.1∈pN l acc
 | [],acc=>⟨fun _ h=>h,by simp⟩
 | (b,r,c)::l,acc=>by
  unfold pN;split
  ·rename_i hc
   obtain⟨h1,h2⟩:=pR l acc;refine⟨h1,fun p hp=>?_⟩;rcases List.mem_cons.1 hp with rfl|hp
   ·exact h1 _ (by simpa using hc)
   ·exact h2 p hp
  ·obtain⟨h1,h2⟩:=pR l (acc ++ [b])
   refine⟨fun x hx=>h1 x (by simp[hx]),fun p hp=>?_⟩;rcases List.mem_cons.1 hp with rfl|hp
   ·exact h1 _ (by simp)
   ·exact h2 p hp
theorem tj:∀(as:List Arg) (acc:List Nat),(∀b∈acc,b∈oY as acc)/\∀f aK,Arg.dy f aK∈as->∀p∈aK,p.1∈oY as acc
 | [],acc=>⟨fun _ h=>h,by simp⟩
 | x::as,acc=>by
  have other:oY (x::as) acc=oY as acc->(∀f aK,x ≠ .dy f aK)->(∀b∈acc,b∈oY (x::as) acc)/\∀f aK,Arg.dy f aK∈x::as->∀p∈aK,p.1∈oY (x::as) acc:=fun e hx=>by
   obtain⟨h1,h2⟩:=tj as acc;rw[e];refine⟨h1,fun f aK hm=>?_⟩;rcases List.mem_cons.1 hm with h|h
   ·exact absurd h.symm (hx f aK)
   ·exact h2 f aK h
  cases x with
  | dy g cs=>
   obtain⟨h1,h2⟩:=tj as (pN cs acc);obtain⟨k1,k2⟩:=pR cs acc;refine⟨fun b hb=>h1 b (k1 b hb),fun f aK hm p hp=>?_⟩;rcases List.mem_cons.1 hm with h|h
   ·cases h;exact h1 _ (k2 p hp)
   ·exact h2 f aK h p hp
  | val=>exact other rfl (by simp)
  | fj=>exact other rfl (by simp)
  | own=>exact other rfl (by simp)
  | ref=>exact other rfl (by simp)
  | gh=>exact other rfl (by simp)
theorem wF {b:Nat}:∀ {l:List Nat},b∈l->l[posOf b l]?=some b
 | [],h=>by cases h
 | x::l,h=>by
  unfold posOf;split
  ·rename_i hb;rw[Nat.eq_of_beq_eq_true hb];rfl
  ·rename_i hb
   rcases List.mem_cons.1 h with rfl|h
   ·rw[Nat.beq_refl]at hb;cases hb
   ·simpa using wF h
theorem Ay {gs:List Nat} {n:Nat}:∀(l:List (Nat×Nat×Nat)),(CI gs n l).length=l.length/\∀(i b r c:Nat),(CI gs n l)[i]?=some (b,r,c)->∃b0,l[i]?=some (b0,r,c)/\b=n+posOf b0 gs
 | []=>⟨rfl,by simp[CI]⟩
 | (b0,r0,c0)::l=>by
  obtain⟨h1,h2⟩:=Ay (gs:=gs) (n:=n) l;refine⟨by simp[CI,h1],fun i b r c hi=>?_⟩;cases i with
  | zero=>simp[CI]at hi;obtain⟨rfl,rfl,rfl⟩:=hi;exact⟨b0,rfl,rfl⟩
  | succ i=>simpa using h2 i b r c (by simpa[CI]using hi)
theorem Az {gs:List Nat} {n:Nat}:∀(as:List Arg),(pO gs n as).length=as.length/\∀(i:Nat) (y:Arg),(pO gs n as)[i]?=some y->∃x,as[i]?=some x/\((x=y/\∀f aK,x ≠ .dy f aK)∨∃f aK,x=.dy f aK/\y=.dy f (CI gs n aK))
 | []=>⟨rfl,by simp[pO]⟩
 | x::as=>by
  obtain⟨h1,h2⟩:=Az (gs:=gs) (n:=n) as;have hl:(pO gs n (x::as)).length=(x::as).length:=by cases x<;>simp[pO,h1]
  refine⟨hl,fun i y hi=>?_⟩;cases i with
  | zero=>
   refine⟨x,rfl,?_⟩;cases x with
   | dy f aK=>simp[pO]at hi;exact .inr ⟨f,aK,rfl,hi.symm⟩
   | _=>simp[pO]at hi;exact .inl ⟨hi,by simp⟩
  | succ i=>
   obtain⟨z,e1,e2⟩:=h2 i y (by cases x<;>simpa[pO]using hi);exact⟨z,by simpa using e1,e2⟩
theorem uC {h:Hp}:∀ {gs:List Nat} {Aw:List Arg},kf h gs=some Aw->Aw.length=gs.length/\∀(k b:Nat),gs[k]?=some b->∃ts,Aw[k]?=some (.gh ts)/\h b=some (.var (ts.map .t))
 | [],Aw,hg=>by simp[kf]at hg;subst hg;exact⟨rfl,by simp⟩
 | b::gs,Aw,hg=>by
  unfold kf at hg;split at hg
  ·rename_i cells hb
   split at hg
   ·rename_i ts as h1 h2
    cases hg;obtain⟨e1,e2⟩:=uC h2;refine⟨by simp[e1],fun k b' hk=>?_⟩;cases k with
    | zero=>simp at hk;subst hk;exact⟨ts,rfl,by rw[hb,VS h1 rfl]⟩
    | succ k=>simpa using e2 k b' (by simpa using hk)
   ·cases hg
  ·cases hg
theorem AA:∀(gs:List Nat),(qZ gs).length=gs.length/\∀(k b:Nat),gs[k]?=some b->(qZ gs)[k]?=some (.ref b)
 | []=>⟨rfl,by simp⟩
 | g::gs=>by
  obtain⟨h1,h2⟩:=AA gs;refine⟨by simp[qZ,h1],fun k b hk=>?_⟩;cases k with
  | zero=>simp at hk;subst hk;rfl
  | succ k=>simpa[qZ]using h2 k b (by simpa using hk)
theorem CK (h0:∀b au,look st.heap b=some au->∃R,β b=some R) {ms:List Mode} {xs:List AV} {aT:List Value} {args:List Arg} {m:List (Nat×Option aC)} {dQ:List bH} (h:Sat K β S st a w)
  (hl:aT.length=xs.length) (hv:∀(i:Nat) (x:AV),xs[i]?=some x->∃v,aT[i]?=some v/\aH β S w x v) (ht:eQ (look st.heap) ms xs=some (args,m,dQ)) :
  ∃(S':Place) (wG:List Value),(∀c o,S c o->S' c o)/\Sat K β S' ⟨st.tmps,eK st.heap m⟩ a w/\eF st.heap (eK st.heap m)/\args.length=wG.length/\dQ.length=wG.length/\wG.take (kE args)=aT /\
   ∃Rs:Nat->bR,(∀(i:Nat) (x:Arg),args[i]?=some x->∃b v,dQ[i]?=some b/\wG[i]?=some v/\ju β st.heap S' w x b (Rs i) v) /\
    ∀(i:Nat) (f:FuncId) (aK:List (Nat×Nat×Nat)) (v:Value),args[i]?=some (.dy f aK)->wG[i]?=some v->dq (βA args Rs) S' w (.dy f aK) v:=by
 unfold eQ at ht;split at ht
 ·cases ht
 rename_i as ks bs hp;obtain⟨S',hS,h1,hm,hal,Mw,Rs,kF⟩:=lx h0 ms xs aT st.heap S as ks bs h (eF.refl _) hl hv hp;obtain⟨c1,c2,c3⟩:=ra hp;have raw:∀(i:Nat) (f:FuncId) (aK:List (Nat×Nat×Nat)) (v:Value),as[i]?=some (.dy f aK)->aT[i]?=some v->dq β S' w (.dy f aK) v:=fun i f aK v hi UM=>by
  obtain⟨u,e1,e2⟩:=hv i _ (c3 i f aK hi);rw[UM]at e1;cases e1;cases e2 with|c e2=>exact e2.mono (fun _ _ hx=>hx) hS fun _ _ _=>rfl
 obtain⟨_,gm⟩:=tj as [];split at ht
 ·rename_i hg
  cases ht;refine⟨S',aT,hS,h1,hm,by omega,by omega,by rw[CJ c2,List.take_of_length_le (by omega)],Rs,kF,fun i f aK v hi UM=>?_⟩;have r:=raw i f aK v hi UM;have hc:aK=[]:=by
   cases aK with
   | nil=>rfl
   | cons p l=>
    have:=gm f (p::l) (List.mem_of_getElem? hi) p (.head _);rw[hg]at this;cases this
  subst hc;cases r with
  | dy vs e1 e2=>exact .dy vs e1 (by simp)
 ·rename_i g gs hg
  rw[hg]at gm;obtain⟨G,hG⟩:∃G,G=g::gs:=⟨_,rfl⟩;rw[<-hG]at ht gm;split at ht
  ·rename_i Aw aaS
   cases ht;obtain⟨g1,g2⟩:=uC aaS;obtain⟨f1,f2⟩:=AA G;obtain⟨a1,a2⟩:=Az (gs:=G) (n:=as.length) as;have hno:∀x∈pO G as.length as,∀ts,x ≠ .gh ts:=fun x hx ts he=>by
    obtain⟨i,hi⟩:=List.getElem?_of_mem hx;obtain⟨y,e1,e2⟩:=a2 i x hi;rcases e2 with⟨rfl,_⟩|⟨f,aK,_,rfl⟩
    ·exact c2 y (List.mem_of_getElem? e1) ts he
    ·cases he
   have hRb:∀(k b:Nat),G[k]?=some b->∃R,β b=some R:=fun k b hk=>by
    obtain⟨ts,_,e⟩:=g2 k b hk;exact h0 b _ e
   obtain⟨rg,SS⟩:∃rg:Nat->bR,∀b R,β b=some R->rg b=R:=⟨fun b=>(β b).getD ⟨0,0,0,0⟩,fun b R hb=>by simp[hb]⟩;have UJ:kE (pO G as.length as++Aw)=as.length:=by
    obtain⟨ts,e1,_⟩:=g2 0 g (by rw[hG];rfl);obtain⟨x,l,rfl⟩:∃x l,Aw=x::l:=by
     cases Aw with
     | nil=>simp at e1
     | cons x l=>exact⟨x,l,rfl⟩
    simp at e1;subst e1;rw[I8 hno,a1]
   refine⟨S',aT++G.map fun b=>.pointer (some ⟨(rg b).cb,(rg b).co,none⟩),hS,h1,hm,by simp[a1,g1];omega,by simp[f1];omega,by rw[UJ,List.take_append_of_le_length (by omega),List.take_of_length_le (by omega)],
    fun i=>if i<as.length then Rs i else rg (G.getD (i-as.length) 0),fun i x hi=>?_,fun i f aK v hi UM=>?_⟩
   ·rw[List.getElem?_append]at hi
    split at hi
    ·rename_i bG
     rw[a1]at bG;obtain⟨y,e1,e2⟩:=a2 i x hi;obtain⟨b,v,q1,q2,q3⟩:=kF i y e1;refine⟨b,v,by rw[List.getElem?_append_left (by omega)];exact q1,by rw[List.getElem?_append_left (by omega)];exact q2,?_⟩;simp only[if_pos bG];rcases e2 with⟨rfl,_⟩|⟨f,aK,rfl,rfl⟩
     ·exact q3
     ·cases q3;exact .dy
    ·rename_i GL
     rw[a1]at GL hi;have hk:=uo hi;obtain⟨b,hb⟩:∃b,G[i-as.length]?=some b:=⟨_,List.getElem?_eq_getElem (by omega)⟩;obtain⟨ts,e1,e2⟩:=g2 _ b hb;obtain⟨R,hR⟩:=hRb _ b hb;rw[hi]at e1;cases e1;refine⟨.ref b,.pointer (some ⟨(rg b).cb,(rg b).co,none⟩),by rw[List.getElem?_append_right (by omega),Mw,<-c1];exact f2 _ b hb,by rw[List.getElem?_append_right (by omega),hl,<-c1,List.getElem?_map,hb];rfl,?_⟩
     have e3:G.getD (i-as.length) 0=b:=by rw[List.getD_eq_getElem?_getD,hb];rfl
     simp only[if_neg GL,e3];rw[SS b R hR];exact .gh e2 hR rfl
   ·rw[List.getElem?_append]at hi
    split at hi
    ·rename_i bG
     rw[a1]at bG;obtain⟨y,e1,e2⟩:=a2 i _ hi;rcases e2 with⟨rfl,e2⟩|⟨f',SU,rfl,e2⟩
     ·exact absurd rfl (e2 f aK)
     ·cases e2
      rw[List.getElem?_append_left (by omega)]at UM;have r:=raw i f SU v e1 UM;obtain⟨l1,l2⟩:=Ay (gs:=G) (n:=as.length) SU;cases r with
      | dy vs q1 q2=>
       refine .dy vs (by rw[l1];exact q1) fun j b r c hj=>?_
       obtain⟨b0,k1,rfl⟩:=l2 j b r c hj;obtain⟨R,k2,k3⟩:=q2 j b0 r c k1;refine⟨R,?_,k3⟩;have yw:=wF (gm f SU (List.mem_of_getElem? e1) _ (List.mem_of_getElem? k1));obtain⟨ts,m1,m2⟩:=g2 _ b0 yw;have e3:G.getD (as.length+posOf b0 G-as.length) 0=b0:=by rw[Nat.add_sub_cancel_left,List.getD_eq_getElem?_getD,yw];rfl
       unfold βA;rw[List.getElem?_append_right (by omega),a1,Nat.add_sub_cancel_left,m1];simp only[Option.bind_some,Arg.au,Option.isSome_some,if_true];rw[if_neg (by omega),e3,SS b0 R k2]
    ·rename_i GL
     obtain⟨b,hb⟩:∃b,G[i-(pO G as.length as).length]?=some b:=⟨_,List.getElem?_eq_getElem (by have:=uo hi;omega)⟩;obtain⟨ts,e1,_⟩:=g2 _ b hb;rw[hi]at e1;cases e1
  ·cases ht
theorem Hr (h:Sat K β S st a w) {bI:List AV} {aT:List Value} (hl:aT.length=bI.length) (hv:∀(i:Nat) (x:AV),bI[i]?=some x->∃v,aT[i]?=some v/\aH β S w x v)
  {ms:List Mode} {args:List Arg} {marks:List (Nat×Option aC)} {dQ:List bH} (hp:eQ (look st.heap) ms bI=some (args,marks,dQ)) {res:mB} (hc:ah P f args res)
  (hs:slot+2<=st.heap.length) (hf:∀b,slot<=b->b<slot+2->β b=none) (he:gG (look st.heap) slot marks dQ res=some e) :
  Calls P f aT.toArray w fun en w'=>∃v β' S',en=.returned v/\(∀b,b<slot∨slot+2<=b->β' b=β b)/\Sat K β' S' ⟨st.tmps,eK st.heap e.wr⟩ a w'/\aH β' S' w' e.val v:=by
 obtain⟨S1,wG,Rb,h1,hm,hal,Mw,Rg,Rs,kF,Pn⟩:=CK (fun b au hb=>by obtain⟨R,hR,_⟩:=h.au b au hb;exact⟨R,hR⟩) h hl hv hp;rw[<-Rg];clear Rg hl hv;generalize wG=aT at *;unfold gG at he;simp only at he;split at he
 ·rename_i YL
  simp only[Bool.and_eq_true,List.isEmpty_iff]at YL;obtain⟨YL,Po⟩:=YL;cases he;have Rh:∀(i:Nat) (b:bH),dQ[i]?=some b->b.id=none:=by
   intro i b hb;cases uD:b.id with
   | none=>rfl
   | some bi=>
    have:bi∈dQ.filterMap bH.id:=List.mem_filterMap.2 ⟨b,List.mem_of_getElem? hb,uD⟩;rw[Po]at this;cases this
  have jv:∀(i:Nat) (x:Arg),args[i]?=some x->∃b v,dQ[i]?=some b/\aT[i]?=some v/\ju β (eK st.heap marks) S1 w x b (Rs i) v:=by
   intro i x hi;obtain⟨b,v,e1,e2,e3⟩:=kF i x hi;exact⟨b,v,e1,e2,e3.heap fun bi hb=>by rw[Rh i b e1]at hb;cases hb⟩
  have nf:=pQ h1 (by omega) (by rw[Po];simp) jv Pn;have fD:∀c o,¬m8 args Rs c o:=by
   rintro c o ⟨i,x,au,e1,e2,e3⟩
   obtain⟨b,v,f1,f2,f3⟩:=jv i x e1;rcases(f3.uz h1).2 au e2 with⟨bi,B,RB,g1,_⟩|⟨_,g⟩
   ·rw[Rh i b f1]at g1;cases g1
   ·exact g c o e3
  refine(hc.2 S1 w aT Rs nf).mono ?_
  rintro en w' ⟨v,rfl,⟨S',Rr,vs,p1,p2,p3,p4,p5,p6,_⟩⟩
  have hk:fh (fun _ _=>False) w w':=p3.mono fun c o _ hx=>absurd hx (fD c o)
  refine⟨v,β,S,rfl,fun _ _=>rfl,?_,?_⟩
  ·exact h.step (fun _=>False) hk (fun _ _ hx=>hx.elim) (fun _ _ hx=>hx) h.top (fun _ _ hx=>hx) (fun _ _ hx=>.inl hx) (fun _ _ _ hx=>hx) (fun _ _ hx=>hx.elim)
  ·obtain⟨q1,q2⟩:=uA res.aT slot YL
   rw[p2];refine wD (by omega) fun i x hi=>?_
   obtain⟨tv,r1,rfl,r3⟩:=q2 i x hi;obtain⟨u,s1,s2⟩:=p6 i _ r1;exact⟨u,s1,Hq r3 s2⟩
 ·split at he
  ·cases he
  ·rename_i Cv
   simp only[Bool.or_eq_true,not_or,Bool.not_eq_true',Bool.not_eq_false]at Cv;obtain⟨⟨hc1,Kj⟩,hc3⟩:=Cv;have oO:(dQ.filterMap bH.id).Nodup:=by simpa using Kj
   have agk:(res.aT.filter RC.na).length<=2:=by simpa using hc3
   have Ei:∀i∈dQ.filterMap bH.id,i ∉ ids marks:=by
    intro i hi;have:=List.all_eq_true.1 hc1 i hi;simpa using this
   split at he
   ·rename_i bw hbw
    cases he;have Mx:∀i∈dQ.filterMap bH.id,i<(eK st.heap marks).length:=by
     intro i hi;obtain⟨b,hb,uD⟩:=List.mem_filterMap.1 hi;obtain⟨k,hk⟩:=List.getElem?_of_mem hb;have ta:=uo hk;obtain⟨b',v,e1,e2,e3⟩:=kF k (args[k]'(by omega)) (List.getElem?_eq_getElem _);rw[hk]at e1;cases e1;rw[Mi];generalize args[k]=x at e3;generalize Rs k=Rk at e3;cases e3 with
     | val=>cases uD
     | fj g1=>cases uD;exact sW g1
     | own g1=>cases uD;exact sW g1
     | nil=>cases uD
     | ref g1=>cases uD;exact sW g1
     | dy=>cases uD
     | gh g1=>cases uD;exact sW g1
    have jv:∀(i:Nat) (x:Arg),args[i]?=some x->∃b v,dQ[i]?=some b/\aT[i]?=some v/\ju β (eK st.heap marks) S1 w x b (Rs i) v:=by
     intro i x hi;obtain⟨b,v,e1,e2,e3⟩:=kF i x hi;exact⟨b,v,e1,e2,e3.heap fun bi hb=>LR marks st.heap (Ei bi (List.mem_filterMap.2 ⟨b,List.mem_of_getElem? e1,hb⟩))⟩
    have nf:=pQ h1 (by omega) oO jv Pn;obtain⟨bs1,bs2,bs3⟩:=nc dQ res.out bw (eK st.heap marks) hbw oO Mx;have rb:∀c o,m8 args Rs c o->∃(i:Nat) (x:Arg) (b:bH) (v:Value) (au:aC) (bi:Nat) (B:aC) (RB:bR),args[i]?=some x/\dQ[i]?=some b/\ju β (eK st.heap marks) S1 w x b (Rs i) v/\x.au=some au/\b.id=some bi/\look (eK st.heap marks) bi=some B/\β bi=some RB/\au.ext (Rs i) c o/\B.ext RB c o/\B.wr RB c o:=by
     rintro c o ⟨i,x,au,e1,e2,e3⟩
     obtain⟨b,v,f1,f2,f3⟩:=jv i x e1;rcases(f3.uz h1).2 au e2 with⟨bi,B,RB,g1,g2,g3,g4,g5⟩|⟨_,g⟩
     ·refine⟨i,x,b,v,au,bi,B,RB,e1,f1,f3,e2,g1,g2,g3,e3,g4 c o e3,g5 c o ?_⟩
      obtain⟨q1,q2⟩:=e3;cases x with
      | val=>cases e2
      | fj sz rows=>cases e2;exact⟨q1,by simpa using q2⟩
      | own sz rows=>cases e2;exact⟨q1,by simpa using q2⟩
      | ref cells=>cases e2;exact⟨q1,q2⟩
      | dy=>cases e2
      | gh cells=>cases e2;exact⟨q1,q2⟩
     ·exact absurd e3 (g c o)
    refine(hc.2 S1 w aT Rs nf).mono ?_
    rintro en w' ⟨v,rfl,⟨S',Rr,vs,p1,p2,p3,p4,p5,p6,p7,p8,p9⟩⟩
    have hwS:∀c o,S1 c o->w'.cell? ⟨c,o,none⟩=w.cell? ⟨c,o,none⟩:=fun c o iW=>(p3.cell (h1.sN c o iW) fun hx=>by
     obtain⟨i,x,b,v,au,bi,B,RB,_,_,_,_,_,g2,g3,_,_,g6⟩:=rb c o hx;obtain⟨R',k1,_,_,k4⟩:=h1.au bi B g2;rw[g3]at k1;cases k1;exact k4 c o g6 iW).1
    have re:∀b au,look (eK (eK st.heap marks) bw) b=some au->∃B,look (eK st.heap marks) b=some B/\∀R c o,au.ext R c o->B.ext R c o:=by
     intro b au hb
     by_cases hD:b∈dQ.filterMap bH.id
     ·obtain⟨bk,gT,uD⟩:=List.mem_filterMap.1 hD
      obtain⟨i,hi⟩:=List.getElem?_of_mem gT;have hil:=uo hi;obtain⟨b',u,l1,l2,l3⟩:=jv i (args[i]'(by omega)) (List.getElem?_eq_getElem _);rw[hi]at l1;cases l1;obtain⟨ob,YM,Pp⟩:=bs3 i bk hi;generalize args[i]=x at l3;generalize Rs i=Ri at l3;cases l3 with
      | val=>cases uD
      | nil=>cases uD
      | own g1=>cases uD;rw[show look (eK (eK st.heap marks) bw) b=none from Pp]at hb;cases hb
      | fj g1 g2 g3 g4=>
       cases uD;obtain⟨kX,r,dv,g',q1,q2,q3,q4⟩:=Pp;rw[q4]at hb;cases hb;rw[LR marks st.heap (Ei b hD),q2]at g1;cases g1;refine⟨_,by rw[LR marks st.heap (Ei b hD)];exact q2,fun R c o hx=>?_⟩;rw[aC.ext,SA _ _ _ (by omega)]at hx;exact hx
      | ref g1 g2 g3=>
       cases uD;obtain⟨cs,gB,q1,q2,q3,q4⟩:=Pp;rw[q4]at hb;cases hb;refine⟨_,by rw[LR marks st.heap (Ei b hD)];exact q2,fun R c o hx=>?_⟩;rw[aC.ext,q3]at hx;exact hx
      | dy=>cases uD
      | gh g1 g2 g3=>
       cases uD;obtain⟨cs,gB,q1,q2,q3,q4⟩:=Pp;rw[q4]at hb;cases hb;refine⟨_,by rw[LR marks st.heap (Ei b hD)];exact q2,fun R c o hx=>?_⟩;rw[aC.ext,q3]at hx;exact hx
     ·rw[bs2 b hD]at hb
      exact⟨au,hb,fun _ _ _ hx=>hx⟩
    have Rj:∀b au,b∈dQ.filterMap bH.id->look (eK (eK st.heap marks) bw) b=some au->∃RB,β b=some RB/\eA β S' w' K.B0 RB au/\(∀c o,au.wr RB c o->¬S' c o) /\
      (∀c o,au.ext RB c o->m8 args Rs c o->∀(k sz:Nat) (rows:List (List Tree)),res.aT[k]?=some (.own sz rows)->¬(aC.rows sz rows true false).ext (Rr k) c o):=by
     intro b au hD hb;obtain⟨bk,gT,uD⟩:=List.mem_filterMap.1 hD;obtain⟨i,hi⟩:=List.getElem?_of_mem gT;have hil:=uo hi;obtain⟨x,VW⟩:∃x,args[i]?=some x:=⟨_,List.getElem?_eq_getElem (by omega)⟩;obtain⟨b',u,l1,l2,l3⟩:=jv i x VW;rw[hi]at l1;cases l1;obtain⟨ob,YM,Pp⟩:=bs3 i bk hi;obtain⟨B,eW,dh⟩:=re b au hb;obtain⟨RB,k1,k2,k3,k4⟩:=h1.au b B eW;have Rl:∀c o,B.ext RB c o->m8 args Rs c o->∃bl,x.au=some bl/\bl.ext (Rs i) c o:=by
      intro c o hx hn;obtain⟨j,x',bj,u',bl,bi,B',SQ,n1,n2,n3,n4,n5,n6,n7,n8,n9,_⟩:=rb c o hn;have CA:bi=b:=by
       rcases Decidable.em (bi=b) with h|h
       ·exact h
       ·exact absurd hx (h1.mz bi b B' B SQ RB h n6 eW n7 k1 c o n9)
      subst CA;have Eh:=Ax dQ j i bj bk oO n2 hi n5 uD;subst Eh;rw[VW]at n1;cases n1;exact⟨bl,n4,n8⟩
     have hS':∀c o,S' c o->B.ext RB c o->S1 c o∨m8 args Rs c o:=by
      intro c o sR hx;rcases p5 c o sR with h|⟨_,h|h⟩
      ·exact .inl h
      ·have:=(k3 c o hx).1;omega
      ·exact .inr h
     generalize hRi:Rs i=Ri at l3;cases l3 with
     | val=>cases uD
     | nil=>cases uD
     | own g1=>cases uD;rw[show look (eK (eK st.heap marks) bw) b=none from Pp]at hb;cases hb
     | fj g1 g2 g3 g4=>
      rename_i sz off len rows g R0;cases uD;rw[k1]at g2;cases g2;obtain⟨kX,r,dv,g',q1,q2,q3,q4⟩:=Pp;subst q1;rw[q4]at hb;cases hb;rw[g1]at eW;cases eW;rw[LR marks st.heap (Ei b hD),q2]at g1;cases g1;obtain⟨arg,b0,a0,a0',a1,a2,a3,a4⟩:=p9 i _ YM;rw[VW]at a0;cases a0;cases a0';rw[hRi]at a1 a2 a3 a4 Rl;obtain⟨z0,z1,z2,z3,z4,z5,z6,z7⟩:=k2;obtain⟨y0,y1,y2,y3,y4,y5,y6,y7⟩:=a2
      have GY:((rows.drop off).take len).length=len:=by rw[List.length_take,List.length_drop];omega
      have Sz:=SA rows r off (by omega);have LS:∀(s o:Nat),RB.co+off*RB.ai<=o->o<RB.co+off*RB.ai+len*RB.ai->(aC.rows s r false false).ext ⟨RB.cb,RB.co+off*RB.ai,RB.ai,RB.cap-off⟩ RB.cb o:=fun s o h1 h2=>⟨rfl,h1,by simp only[Bool.false_eq_true,if_false];rw[q3];exact h2⟩
      have Hs:∀(s c o:Nat),(aC.rows s rows g false).ext RB c o->m8 args Rs c o->c=RB.cb/\RB.co+off*RB.ai<=o/\o<RB.co+off*RB.ai+len*RB.ai:=by
       intro s c o hx hn;obtain⟨bl,m1,m2⟩:=Rl c o hx hn;cases m1;obtain⟨m3,m4,m5⟩:=m2;simp only[Bool.false_eq_true,if_false,GY]at m4 m5;exact⟨m3,m4,m5⟩
      refine⟨RB,k1,⟨z0,fun row da=>?_,by rw[Sz];exact z2,z3,by rw[Sz];exact z4,by rw[Sz];exact p3.there z5,fun p j t ht=>?_,by simp⟩,fun c o hy sR=>?_,fun c o hy hn k My ng hk=>?_⟩
      ·obtain⟨k,hk⟩:=List.getElem?_of_mem da
       rw[Pg _ _ _ _ (by omega)]at hk;split at hk
       ·exact y1 row (List.mem_of_getElem? hk)
       ·exact z1 row (List.mem_of_getElem? hk)
      ·obtain⟨row,f1,f2,f3,f4⟩:=iS ht
       rw[Pg _ _ _ _ (by omega)]at f1;split at f1
       ·rename_i iR
        obtain⟨v,m1,m2⟩:=y6 _ _ _ (GM f1 f2);refine⟨v,?_,m2⟩;simp only at m1;have hpp:p*RB.ai=off*RB.ai+(p-off)*RB.ai:=by rw[<-Nat.add_mul];congr 1;omega
        rw[show RB.co+p*RB.ai+j=RB.co+off*RB.ai+(p-off)*RB.ai+j by omega];exact m1
       ·rename_i iR
        have mM:=GM f1 f2;obtain⟨v,m1,m2⟩:=z6 _ _ _ mM;obtain⟨m3,m4,m5⟩:=g7 z1 mM;have J7:rows.length*RB.ai<=(if g=true then RB.cap else rows.length)*RB.ai:=Nat.mul_le_mul_right _ (by split<;>omega);have hex:(aC.rows 0 rows g false).ext RB RB.cb (RB.co+p*RB.ai+j):=⟨rfl,by omega,by omega⟩;refine⟨v,?_,m2.mono p4 hwS⟩;rw[(p3.cell (k3 _ _ hex).1 fun hn=>?_).1]
        ·exact m1
        ·obtain⟨_,n1,n2⟩:=Hs _ _ _ hex hn
         rcases Nat.lt_or_ge p off with EE|EE
         ·have:=Nat.mul_le_mul_right RB.ai (show p+1<=off by omega)
          rw[Nat.succ_mul]at this;omega
         ·have:=Nat.mul_le_mul_right RB.ai (show off+len<=p by omega)
          rw[Nat.add_mul]at this;omega
      ·have VX:(aC.rows _ rows g false).ext RB c o:=dh RB c o (aC.fG hy)
       rcases hS' c o sR VX with h|h
       ·refine k4 c o ?_ h
        obtain⟨n1,n2,n3⟩:=VX;exact⟨n1,by simpa using n2,n3⟩
       ·obtain⟨rfl,n1,n2⟩:=Hs _ c o VX h
        obtain⟨n3,n4,n5⟩:=LS 0 o n1 n2;exact a3 _ _ ⟨n3,by simpa using n4,n5⟩ sR
      ·have VX:(aC.rows _ rows g false).ext RB c o:=dh RB c o hy
       obtain⟨rfl,n1,n2⟩:=Hs _ c o VX hn;exact a4 k My ng hk _ _ (LS _ o n1 n2)
     | ref g1 g2 g3=>
      rename_i ts;cases uD;rw[k1]at g2;cases g2;obtain⟨cs,gB,q1,q2,q3,q4⟩:=Pp;subst q1;rw[q4]at hb;cases hb;rw[g1]at eW;cases eW;rw[LR marks st.heap (Ei b hD),q2]at g1;cases g1;obtain⟨arg,b0,a0,a0',a1,a2,a3,a4⟩:=p9 i _ YM;rw[hRi]at a1 a2 a3 a4;refine⟨RB,k1,a2.vE,a3,fun c o hy hn k My ng hk=>a4 k My ng hk c o hy⟩
     | dy=>cases uD
     | gh g1 g2 g3=>
      rename_i ts;cases uD;rw[k1]at g2;cases g2;obtain⟨cs,gB,q1,q2,q3,q4⟩:=Pp;subst q1;rw[q4]at hb;cases hb;rw[g1]at eW;cases eW;rw[LR marks st.heap (Ei b hD),q2]at g1;cases g1;obtain⟨arg,b0,a0,a0',a1,a2,a3,a4⟩:=p9 i _ YM;rw[hRi]at a1 a2 a3 a4;refine⟨RB,k1,a2.vE,a3,fun c o hy hn k My ng hk=>a4 k My ng hk c o hy⟩
    have h2:Sat K β S' ⟨st.tmps,eK (eK st.heap marks) bw⟩ a w':=by
     refine h1.step (fun b=>b∈dQ.filterMap bH.id) p3 (fun c o hx bG=>?_) (fun _ _ hx=>hx) (fun b R hb=>by rw[Mi];exact h1.top b R hb) p4 (fun c o sR=>?_) (fun b au hD hb=>by rw[bs2 b hD]at hb;exact hb) (fun b au hD hb=>?_)
     ·obtain⟨i,x,b,v,au,bi,B,RB,_,g0,_,_,g1,g2,g3,_,g5,g6⟩:=rb c o hx
      obtain⟨R',k1,_,k3,k4⟩:=h1.au bi B g2;rw[g3]at k1;cases k1;refine⟨k4 c o g6,(k3 c o g5).2,fun b' db R' hD bK gW hy=>?_⟩;have cY:bi≠b':=by rintro rfl;exact hD (List.mem_filterMap.2 ⟨b,List.mem_of_getElem? g0,g1⟩)
      exact h1.mz bi b' B db RB R' cY g2 bK g3 gW c o g5 hy
     ·rcases p5 c o sR with iW|⟨bG,hn⟩
      ·exact .inl iW
      ·refine .inr ⟨bG,?_,fun b' db R' hD bK gW hy=>?_⟩
       ·rcases hn with hn|hn
        ·exact .inl (by have:=h.jF.size;unfold Ctx.B0;omega)
        ·obtain⟨i,x,b,v,au,bi,B,RB,_,_,_,_,_,g2,g3,_,g5,_⟩:=rb c o hn
         obtain⟨R',k1,_,k3,_⟩:=h1.au bi B g2;rw[g3]at k1;cases k1;exact(k3 c o g5).2
       ·rcases hn with hn|hn
        ·obtain⟨wm,k1,_,k3,_⟩:=h1.au b' db bK
         rw[gW]at k1;cases k1;have:=(k3 c o (aC.fG hy)).1;omega
        ·obtain⟨i,x,b,v,au,bi,B,RB,_,g0,_,_,g1,g2,g3,_,g5,_⟩:=rb c o hn
         have cY:bi≠b':=by rintro rfl;exact hD (List.mem_filterMap.2 ⟨b,List.mem_of_getElem? g0,g1⟩)
         exact h1.mz bi b' B db RB R' cY g2 bK g3 gW c o g5 (aC.fG hy)
     ·obtain⟨B,eW,dh⟩:=re b au hb
      obtain⟨RB,k1,k2,k3,k4⟩:=h1.au b B eW;obtain⟨SQ,t1,t2,t3,_⟩:=Rj b au hD hb;rw[k1]at t1;cases t1;refine⟨RB,k1,t2,fun c o hx=>⟨Nat.lt_of_lt_of_le (k3 c o (dh _ c o hx)).1 p3.size,(k3 c o (dh _ c o hx)).2⟩,t3,fun EH iI wm cY jc mG c o hx hy=>?_⟩;obtain⟨B'',m1,m2⟩:=re EH iI jc;exact h1.mz b EH B B'' RB wm (Ne.symm cY) eW m1 k1 mG c o (dh _ c o hx) (m2 _ c o hy)
    have hWn:∀c o,w.heap.size<=c∨m8 args Rs c o->K.B0<=c∨K.W c o:=by
     rintro c o (hn|hn)
     ·exact .inl (by have:=h.jF.size;unfold Ctx.B0;omega)
     ·obtain⟨i,x,b,v,au,bi,B,RB,_,_,_,_,_,g2,g3,_,g5,_⟩:=rb c o hn
      obtain⟨R',k1,_,k3,_⟩:=h1.au bi B g2;rw[g3]at k1;cases k1;exact(k3 c o g5).2
    obtain⟨β',e1,e2,e3,e4,e5⟩:=wE (st:=st) res.aT vs 0 Rr slot β _ h2 (by omega) (fun k r hk=>by
      obtain⟨u,q1,q2⟩:=p6 k r hk;exact⟨u,q1,by rw[Nat.zero_add];exact q2⟩) (by rw[Mi,Mi];omega) (fun b h1 h2=>hf b h1 (by omega))
     (fun k sz rows hk=>by
      rw[Nat.zero_add];obtain⟨q1,q2⟩:=p7 k sz rows hk;exact⟨fun c o hx=>⟨(q1 c o hx).1,hWn c o (q1 c o hx).2⟩,q2⟩)
     (fun k j sz kX rows dv cY hk hj=>by rw[Nat.zero_add,Nat.zero_add];exact p8 k j sz kX rows dv cY hk hj)
     (fun k sz rows hk b db R' hb hR c o hx hy=>by
      rw[Nat.zero_add]at hy;obtain⟨B,eW,dh⟩:=re b db hb;obtain⟨RB,k1,k2,k3,k4⟩:=h1.au b B eW;rw[hR]at k1;cases k1;rcases((p7 k sz rows hk).1 c o hy).2 with hn|hn
      ·have:=(k3 c o (dh _ c o hx)).1;omega
      ·by_cases hD:b∈dQ.filterMap bH.id
       ·obtain⟨SQ,t1,_,_,t4⟩:=Rj b db hD hb
        rw[hR]at t1;cases t1;exact t4 c o hx hn k sz rows hk hy
       ·obtain⟨i,x,bj,v,bl,bi,B',SQ,_,g0,_,_,g1,g2,g3,_,g5,_⟩:=rb c o hn
        have cY:bi≠b:=by rintro rfl;exact hD (List.mem_filterMap.2 ⟨bj,List.mem_of_getElem? g0,g1⟩)
        exact h1.mz bi b B' B SQ R' cY g2 eW g3 hR c o g5 (dh _ c o hx))
    refine⟨v,β',S',rfl,fun b hb=>e1 b (by omega),by rw[GX,GX];exact e3,?_⟩;rw[p2];exact wD (by omega) e5
   ·cases he
end
theorem rf:∀ {cs:List Cell} {ts:List Tree},oh cs=some ts->ts.length=cs.length/\∀(j:Nat) (t:Tree),ts[j]?=some t->cs[j]?=some (.t t)
 | [],ts,h=>by simp[oh]at h;subst h;simp
 | c::cs,ts,h=>by
  cases c with
  | t x=>
   simp only[oh,Option.map_eq_some_iff]at h;obtain⟨Pj,h1,rfl⟩:=h;obtain⟨h2,h3⟩:=rf h1;refine⟨by simp[h2],fun j t hj=>?_⟩;cases j with
   | zero=>simp at hj;subst hj;rfl
   | succ j=>simpa using h3 j t (by simpa using hj)
  | _=>simp[oh]at h
section
variable {P:Program} {C:eh} {K:Ctx} {β:Nat->Option bR} {S:Place} {st:St} {a:Act} {w:World} {slot:Nat} {e:bW} {o:Oper}
theorem Sat.AD (h:Sat K β S st a w) {b:Nat} {cells:List Cell} (hb:look st.heap b=some (.var cells)) :
  ∃S',(∀c o,S c o->S' c o)/\Sat K β S' ⟨st.tmps,st.heap.set b none⟩ a w/\∀R,β b=some R->∀o,R.co<=o->o<R.co+cells.length->S' R.cb o:=by
 obtain⟨R,hR,iU,hx,GV⟩:=h.au b _ hb;have bG:=sW hb
 let S':Place:=fun c o=>S c o∨(c=R.cb/\R.co<=o/\o<R.co+cells.length)
 have Ao:∀c o,S c o->S' c o:=fun _ _ hx=>.inl hx
 have iR:∀c o,S' c o->S c o∨(aC.var cells).ext R c o:=by
  rintro c o (hs|⟨e1,e2,e3⟩)
  ·exact .inl hs
  ·exact .inr ⟨e1,e2,by omega⟩
 refine⟨S',Ao,?_,fun R' gW o e1 e2=>by rw[hR]at gW;cases gW;exact .inr ⟨rfl,e1,e2⟩⟩;refine h.step (Wr:=fun _ _=>False) (fun b'=>b'=b) (fh.refl _ _) (fun _ _ hx=>hx.elim) (fun _ _ hx=>hx) (fun b' R' bK=>by simpa using h.top b' R' bK) Ao (fun c o hs=>?_) (fun b' db hD bK=>?_) (fun b' db hD bK=>?_)
 ·rcases iR c o hs with hs|hs
  ·exact .inl hs
  ·refine .inr ⟨(hx c o hs).1,(hx c o hs).2,fun b' db R' hD bK gW hy=>?_⟩
   exact h.mz b b' _ db R R' (Ne.symm hD) hb bK hR gW c o hs (aC.fG hy)
 ·rw[sZ hD]at bK;exact bK
 ·subst hD
  rw[Ap (by simpa using bG)]at bK;cases bK
theorem Pq (hC:bq P C) (h:Sat K β S st a w) {t:TypeId} {x:Operand} {lo hi mx:Option Operand} (ho:o.op=.slice t x lo hi mx)
  (he:dm C (look st.heap) t (st.get x) (lo.map st.get) (hi.map st.get) (mx.map st.get)=some e):oN P K β S st a w slot o e:=by
 by_cases OF:∀ti n el,C.ty t=some ti->ti.kind ≠ .array n el
 ·exact(O8 hC h ho OF he).lj h
 have hex:∃ti n el,C.ty t=some ti/\ti.kind=.array n el:=by
  apply Classical.byContradiction;intro hc;exact OF fun ti n el h1 h2=>hc ⟨ti,n,el,h1,h2⟩
 obtain⟨ti,n,el,bZ,hk⟩:=hex;have dM:=iV (hC t ti bZ);have hx:=h.get x;unfold dm at he;simp only[bZ]at he;split at he
 ·rename_i l lh m hl hh hm
  have bl:=fC.low h hl;have bh:=fC.of h hh;have bm:=fC.of h hm;split at he
  ·rename_i yu _;rw[hk]at yu;cases yu
  ·rename_i yu _;rw[hk]at yu;cases yu
  ·rename_i yu _;rw[hk]at yu;cases yu
  ·rename_i n' el' b r c yu hg
   rw[hk]at yu;cases yu;rw[hg]at hx;cases hx with|c hx=>
   generalize eI:a.eval x=av at hx;cases hx with|ptr R hR=>
   split at he
   ·rename_i cells te hb du
    split at he
    ·rename_i hc
     obtain⟨rfl,rfl,rfl,e0,e1,rfl,dS,hlen,hn⟩:=hc;split at he
     ·rename_i ts uv
      cases he;obtain⟨t1,t2⟩:=rf uv;have eE:=iV (hC _ te du);obtain⟨R',gW,iU,_⟩:=h.au b _ hb;rw[hR]at gW;cases gW;obtain⟨S',Ao,kC,SC⟩:=h.AD hb;have Hf:mx.map a.eval=none:=by
       cases J6:mx.map a.eval with
       | none=>rfl
       | some v=>rw[J6]at bm;exact bm.elim
      have cZ:=fW (P:=P) (w:=w) (isSlice:=false) (len:=n) (cap:=n) (mx:=none) (m:=none) bl bh trivial (by simp) (by omega) e0 (by simpa using e1) (by simp);obtain⟨k,GU⟩:∃k,k=(lh.getD (n:Int)).toNat:=⟨_,rfl⟩;have UN:k<=n:=by omega
      let rows:List (List Tree):=(ts.take k).map fun t=>[t]
      have yx:rows.length=k:=by simp only[rows,List.length_map,List.length_take,t1,hlen];omega
      have UL:∀i j t,fg rows i j=some t->j=0/\i<k/\ts[i]?=some t:=by
       intro i j t ht;obtain⟨row,h1,h2,_,_⟩:=iS ht;simp only[rows,List.getElem?_map,Option.map_eq_some_iff]at h1;obtain⟨u,h3,rfl⟩:=h1;rw[List.getElem?_take]at h3;split at h3
       ·rename_i Pr
        cases j with
        | zero=>simp at h2;subst h2;exact⟨rfl,Pr,h3⟩
        | succ j=>simp at h2
       ·cases h3
      have aaY:∃val:Nat->Nat->Value,∀i j t,fg rows i j=some t->w.cell? ⟨R.cb,R.co+i*1+j,none⟩=some (val i j)/\dR S' w t (val i j):=by
       have:∀i j,∃v,∀t,fg rows i j=some t->w.cell? ⟨R.cb,R.co+i*1+j,none⟩=some v/\dR S' w t v:=by
        intro i j;cases ht:fg rows i j with
        | none=>exact⟨undef,by simp⟩
        | some t=>
         obtain⟨rfl,Pr,h3⟩:=UL i j t ht;obtain⟨v,a1,a2⟩:=iU.2 i _ (t2 i t h3);cases a2 with|t a2=>
         exact⟨v,fun t' mM=>by cases mM;exact⟨by simpa using a1,a2.mono Ao fun _ _ _=>rfl⟩⟩
       exact⟨fun i j=>(this i j).choose,fun i j t ht=>(this i j).choose_spec t ht⟩
      obtain⟨val,pK⟩:=aaY;have hT:dR S' w (.aa false rows) (.slice (some ⟨R.cb,R.co,none⟩) rows.length n):=
       .aa false rows _ R.cb R.co 1 n val (by omega) (by omega) (by omega) (fun hf=>by cases hf) (fun _=>rfl) (fun hf=>by cases hf) (fun r hr=>by
        obtain⟨u,_,rfl⟩:=List.mem_map.1 hr;rfl) (fun i j t ht=>by
        obtain⟨rfl,Pr,_⟩:=UL i j t ht;exact⟨SC R hR _ (by omega) (by omega),(pK i 0 t ht).1⟩) (fun i j t ht=>(pK i j t ht).2)
      refine⟨w,β,S',.slice (some ⟨R.cb,R.co,none⟩) rows.length n,_,?_,.inl rfl,fun _ _=>rfl,by simpa[eK]using kC,?_⟩
      ·simp only[execOp,ho,Instr.sliceAt,Instr.sureAddr,run_underlying (dM.array hk),Sem.run_bind,Sem.run_pure,Result.andThen,eI,Hf,cZ,eE.sizeOf,Option.getD_none]
       have hz:Int.toNat 0=0:=rfl;have e2:(⟨R.cb,R.co+0*R.ai+0,none⟩:Addr)=⟨R.cb,R.co,none⟩:=by simp
       have e3:(⟨R.cb,R.co,none⟩:Addr).add (0*te.size)=⟨R.cb,R.co,none⟩:=by rw[Nat.zero_mul];simp[Addr.add]
       rw[hz,e2,e3,yx,GU,Int.toNat_natCast,Nat.sub_zero,Nat.sub_zero];split<;>rfl
      ·rw[<-GU]
       exact .c (.t hT)
     ·cases he
    ·cases he
   ·cases he
  ·cases he
 ·cases he
end
section
variable {P:Program} {C:eh} {K:Ctx} {β:Nat->Option bR} {S:Place} {st:St} {a:Act} {w:World} {slot:Nat} {e:bW} {o:Oper}
theorem uE {h:Hp}:∀ {cs:List Cell} {ts:List Tree} {m:List (Nat×Option aC)},bL h cs=some (ts,m)->∀p∈m,(h p.1).isSome=true
 | [],ts,m,ht=>by simp[bL]at ht;obtain⟨_,rfl⟩:=ht;simp
 | c::cs,ts,m,ht=>by
  unfold bL at ht;split at ht
  ·rename_i t m1 h1
   split at ht
   ·rename_i Pj m2 h2
    cases ht;intro p hp;rcases List.mem_append.1 hp with hp|hp
    ·unfold toTree at h1
     split at h1
     ·cases h1;cases hp
     ·split at h1
      ·rename_i hb
       split at h1
       ·cases h1;simp at hp;subst hp;rw[hb];rfl
       ·cases h1
      ·cases h1
     ·cases h1
    ·exact uE h2 p hp
   ·cases ht
  ·cases ht
theorem EU:∀(ws:List (Nat×Option aC)) (h:bM),(∀p∈ws,p.1<h.length)->look (eK h ws)=Ew (look h) ws
 | [],h,_=>rfl
 | p::l,h,hp=>by
  rw[iJ,EU l _ (fun q hq=>by rw[List.length_set];exact hp q (List.mem_cons_of_mem _ hq)),Ew];congr 1;funext b;split
  ·rename_i hb;rw[Nat.eq_of_beq_eq_true hb,Ap (hp p List.mem_cons_self)]
  ·rename_i hb;rw[sZ (fun hh=>by rw[hh,Nat.beq_refl]at hb;cases hb)]
theorem Sat.Mz {tm:List AV} {heap:bM} (h:Sat K β S ⟨tm,heap⟩ a w) {b:Nat} {cells:List Cell} {ts:List Tree} {m:List (Nat×Option aC)}
  (hb:look heap b=some (.var cells)) (ht:bL (look heap) cells=some (ts,m)) :
  ∃S',(∀c o,S c o->S' c o)/\Sat K β S' ⟨tm,eK heap (m ++ [(b,some (.var (ts.map .t)))])⟩ a w:=by
 obtain⟨R,hR,iU,_,_⟩:=h.au b _ hb;obtain⟨⟨vC,dN⟩,GY⟩:=iU;obtain⟨vs,LK⟩:∃vs:List Value,vs=(List.range cells.length).map fun j=>(w.cell? ⟨R.cb,R.co+j,none⟩).getD undef:=⟨_,rfl⟩
 obtain⟨S',hS,kC,hm,hl,uv⟩:=gk (st:=⟨tm,heap⟩) cells vs heap S ts m h (eF.refl _) (by rw[LK];simp) (fun i c hi=>by
  obtain⟨v,e1,e2⟩:=GY i c hi;have bG:=(List.getElem?_eq_some_iff.1 hi).1;exact⟨v,by rw[LK,List.getElem?_map,List.getElem?_range bG,Option.map_some,e1];rfl,e2⟩) ht
 have mX:look (eK heap m) b=some (.var cells):=by
  rcases hm.2 b with e|⟨_,_,_,_,e,_⟩
  ·exact e.trans hb
  ·exact absurd (hb.symm.trans e) (by simp)
 refine⟨S',hS,?_⟩;rw[GX];obtain⟨R',gW,agq,VY,Mj⟩:=kC.au b _ mX;rw[hR]at gW;cases gW;have Mw:=sW mX;show Sat K β S' ⟨tm,(eK heap m).set b (some (.var (ts.map .t)))⟩ a w
 refine kC.step (D:=fun x=>x=b) (Wr:=fun _ _=>False) (fh.refl _ w) (fun _ _ hx=>hx.elim) (fun _ _ hx=>hx) (fun b' R bK=>by rw[List.length_set];exact kC.top b' R bK) (fun _ _ hx=>hx) (fun _ _ hx=>.inl hx) (fun b' au cY bK=>?_) (fun b' au hD bK=>?_)
 ·rwa[sZ cY]at bK
 ·subst hD
  rw[Ap Mw]at bK;cases bK;refine⟨R,hR,⟨⟨by simpa[hl]using vC,dN⟩,fun j c hj=>?_⟩,fun c o hx=>VY c o (by unfold aC.ext at *;simpa[hl]using hx),fun c o hx=>Mj c o (by unfold aC.wr at *;simpa[hl]using hx),fun EH iI wm cY jc mG c o hx=>?_⟩
  ·rw[List.getElem?_map]at hj
   obtain⟨t,OI,rfl⟩:=Option.map_eq_some_iff.1 hj
   replace hj:=OI
   have bG:=(List.getElem?_eq_some_iff.1 hj).1;obtain⟨v,e1,e2⟩:=uv j t hj;rw[hl]at bG;rw[LK,List.getElem?_map,List.getElem?_range bG,Option.map_some]at e1;have VZ:=(vC (R.co+j) (by omega) (by omega)).1;obtain⟨u,hu⟩:=Option.isSome_iff_exists.1 VZ;rw[hu]at e1;cases e1;exact⟨u,hu,.t e2⟩
  ·rw[sZ cY]at jc
   exact kC.mz b' EH _ _ R wm (Ne.symm cY) mX jc hR mG c o (by unfold aC.ext at *;simpa[hl]using hx)
theorem Sat.fq {tm:List AV}:∀(l:List (Nat×Nat×Nat)) {heap:bM} {S:Place} {ws:List (Nat×Option aC)},Sat K β S ⟨tm,heap⟩ a w->Abs.fq (look heap) l=some ws ->
  ∃S',(∀c o,S c o->S' c o)/\Sat K β S' ⟨tm,eK heap ws⟩ a w
 | [],heap,S,ws,h,hw=>by
  simp[Abs.fq]at hw;subst hw;exact⟨S,fun _ _ hx=>hx,h⟩
 | (b,r,c)::l,heap,S,ws,h,hw=>by
  unfold Abs.fq at hw;split at hw
  ·rename_i cells hb
   split at hw
   ·split at hw
    ·rename_i ts m ht
     split at hw
     ·rename_i ws2 YN
      cases hw;obtain⟨S1,Rb,h1⟩:=h.Mz hb ht;rw[<-EU _ _ (fun p hp=>by
       rcases List.mem_append.1 hp with hp|hp
       ·obtain⟨au,pP⟩:=Option.isSome_iff_exists.1 (uE ht p hp)
        exact sW pP
       ·simp at hp;subst hp;exact sW hb)]at YN
      obtain⟨S2,Rc,h2⟩:=Sat.fq l h1 YN;refine⟨S2,fun c o hx=>Rc _ _ (Rb _ _ hx),?_⟩;rw[<-GX,List.append_assoc]at h2;exact h2
     ·cases hw
    ·cases hw
   ·exact Sat.fq l h hw
  ·exact Sat.fq l h hw
theorem Ht (h:Sat K β S st a w) {f:FuncId} {first aK:Array Operand} (ho:o.op=.makeFunc (.func f) first aK)
  (he:evalOp C slot st.get (look st.heap) (.makeFunc (.func f) first aK)=some e):oN P K β S st a w slot o e:=by
 obtain⟨g,l,v,e1,e2,e3,e4⟩:=Hi (P:=P) h ho he;rcases e2 with e2|e2
 ·obtain⟨S',hS,h'⟩:=Sat.fq (tm:=st.tmps) l h e2
  exact⟨w,β,S',v,_,e3,.inl rfl,fun _ _=>rfl,h',by rw[e1];exact e4.mono (fun _ _ hx=>hx) hS fun _ _ _=>rfl⟩
 ·exact⟨w,β,S,v,_,e3,.inl rfl,fun _ _=>rfl,by rw[e2];exact h,by rw[e1];exact e4⟩
end
def slotsOf (C:eh):Op->Nat
 | .call { callee:=.value (.func f),.. }=>match C.md f with
  | .sh n::_=>n
  | _=>2
 | .call { callee:=.value _,.. }=>2
 | .call { callee:=.builtin .append,.. }=>1
 | .alloc _|.box _ _|.buildSlice _ _ _|.makeSlice _ _ _|.makeMap _ _=>1
 | _=>0
section
variable {P:Program} {C:eh} {K:Ctx} {β:Nat->Option bR} {S:Place} {st:St} {a:Act} {w:World} {slot:Nat} {e:bW} {o:Oper}
theorem I9 (hC:bq P C) (h:Sat K β S st a w) (CL:slotsOf C o.op≠0->slot<st.heap.length/\β slot=none) (he:evalOp C slot st.get (look st.heap) o.op=some e):oN P K β S st a w slot o e:=by
 cases eJ:o.op with
 | move x=>
  rw[eJ]at he;simp only[evalOp]at he;cases he;exact(Mb h (.inl eJ) rfl rfl).lj h
 | assign x=>
  rw[eJ]at he;simp only[evalOp]at he;cases he;exact(Mb h (.inr eJ) rfl rfl).lj h
 | nilCheck x=>rw[eJ]at he;exact(Hd h eJ he).lj h
 | pick c x y=>rw[eJ]at he;exact(Sn h eJ he).lj h
 | alloc t=>rw[eJ]at he CL;exact Pk hC h (CL (by simp[slotsOf])).1 (CL (by simp[slotsOf])).2 eJ he
 | box t x=>rw[eJ]at he CL;exact VE hC h (CL (by simp[slotsOf])).1 (CL (by simp[slotsOf])).2 eJ he
 | build t ps=>rw[eJ]at he;exact(Ph hC h eJ he).lj h
 | buildSlice t n ps=>rw[eJ]at he CL;exact CH hC h (CL (by simp[slotsOf])).1 (CL (by simp[slotsOf])).2 eJ he
 | load t x=>rw[eJ]at he;exact(Sl hC h eJ he).lj h
 | store t x y=>rw[eJ]at he;exact Pl hC h eJ he
 | binOp op t x y t'=>rw[eJ]at he;exact(O6 hC h eJ he).lj h
 | unOp op t x=>rw[eJ]at he;exact(Su h eJ he).lj h
 | convert s d x=>rw[eJ]at he;simp only[evalOp]at he;exact(Ka hC h eJ he).lj h
 | makeSlice t l c=>rw[eJ]at he CL;exact EK hC h (CL (by simp[slotsOf])).1 (CL (by simp[slotsOf])).2 eJ he
 | slice t x lo hi mx=>rw[eJ]at he;simp only[evalOp]at he;exact Pq hC h eJ he
 | fieldAddr t x f=>rw[eJ]at he;exact(EA hC h eJ he).lj h
 | field t x f=>rw[eJ]at he;exact(OY hC h eJ he).lj h
 | indexAddr t x i=>rw[eJ]at he;exact(EB hC h eJ he).lj h
 | index t x i=>rw[eJ]at he;exact(O7 hC h eJ he).lj h
 | extract x i=>rw[eJ]at he;exact(J5 h eJ he).lj h
 | makeFunc fn first aK=>
  rw[eJ]at he;cases fn with
  | func f=>exact Ht h eJ he
  | _=>simp[evalOp]at he
 | makeMap t r=>rw[eJ]at he CL;exact Kc hC h (CL (by simp[slotsOf])).1 (CL (by simp[slotsOf])).2 eJ he
 | lookup t x i ok=>rw[eJ]at he;exact(Mf hC h eJ he).lj h
 | mapUpdate t x i v=>rw[eJ]at he;exact EP hC h eJ he
 | call c=>
  rw[eJ]at he;obtain⟨callee,args,argTypes⟩:=c;cases callee with
  | builtin b=>
   simp only[evalOp]at he;split at he
   ·rename_i x t h1 h2
    exact(Vw hC h eJ h1 h2 he).lj h
   ·rename_i s x t h1 h2
    split at he
    ·rename_i ti bZ
     have dM:=iV (hC _ ti bZ);split at he
     ·rename_i el hk
      split at he
      ·rename_i te t1 du yv
       split at he
       ·rename_i OW CM
        have V9:=iV (hC _ OW CM);split at he
        ·rename_i e' GS
         split at he
         ·cases he
         ·rename_i hz
          exact EM hC h (CL (by simp[eJ,slotsOf])).1 (CL (by simp[eJ,slotsOf])).2 eJ h1 ⟨⟨t,h2,dM.slice hk⟩,t1,yv,.inl ⟨e',V9.slice GS⟩⟩ du (by omega) he
        ·rename_i GS
         split at he
         ·cases he
         ·rename_i hz
          exact EM hC h (CL (by simp[eJ,slotsOf])).1 (CL (by simp[eJ,slotsOf])).2 eJ h1 ⟨⟨t,h2,dM.slice hk⟩,t1,yv,.inr (V9.string GS)⟩ du (by omega) he
        ·cases he
       ·cases he
      ·cases he
     ·cases he
    ·cases he
   ·rename_i d x t h1 h2
    split at he
    ·rename_i ti bZ
     have dM:=iV (hC _ ti bZ);split at he
     ·rename_i el hk
      split at he
      ·rename_i te du
       split at he
       ·cases he
       ·exact SN hC h eJ h1 h2 (dM.slice hk) du he
      ·cases he
     ·cases he
    ·cases he
   ·rename_i x y h1
    exact(Q9 (gt:=true) h eJ h1 he).lj h
   ·rename_i x y h1
    exact(Q9 (gt:=false) h eJ h1 he).lj h
   ·cases he
  | value f=>simp[evalOp]at he
  | invoke r m=>simp[evalOp]at he
 | _=>rw[eJ]at he;simp[evalOp]at he
end
def Cell.ay (ρ:Nat->Nat):Cell->Cell
 | .t x=>.t x
 | .ptr b r c=>.ptr (ρ b) r c
 | .tp row c=>.tp row c
 | .sl b off len cp=>.sl (ρ b) off len cp
 | .mp b=>.mp (ρ b)
 | .dy f aK=>.dy f (aK.map fun p=>(ρ p.1,p.2))
def AV.ay (ρ:Nat->Nat):AV->AV
 | .c x=>.c (x.ay ρ)
 | .agg l=>.agg (l.map (Cell.ay ρ))
 | .pD l=>.pD l
 | .af=>.af
def AV.aI:AV->Prop
 | .pD _=>False
 | _=>True
def aC.ay (ρ:Nat->Nat):aC->aC
 | .var cells=>.var (cells.map (Cell.ay ρ))
 | .rows sz l g fz=>.rows sz l g fz
 | .map cR=>.map cR
 | .gB sz l=>.gB sz l
def Cell.fu (ids:List Nat):Cell->Bool
 | .t _=>true
 | .ptr b _ _=>ids.contains b
 | .tp _ _=>true
 | .sl b _ _ _=>ids.contains b
 | .mp b=>ids.contains b
 | .dy _ aK=>aK.all fun p=>ids.contains p.1
def AV.fu (ids:List Nat):AV->Bool
 | .c x=>x.fu ids
 | .agg l=>l.all (·.fu ids)
 | .pD _=>false
 | .af=>true
def aC.fu (ids:List Nat):aC->Bool
 | .var cells=>cells.all (·.fu ids)
 | .rows _ _ _ fz=>!fz
 | _=>false
def Cell.refs:Cell->List Nat
 | .t _=>[]
 | .ptr b _ _=>[b]
 | .tp _ _=>[]
 | .sl b _ _ _=>[b]
 | .mp b=>[b]
 | .dy _ aK=>aK.map (·.1)
def AV.refs:AV->List Nat
 | .c x=>x.refs
 | .agg l=>l.flatMap Cell.refs
 | _=>[]
def reach (h:Hp):Nat->List Nat->List Nat->List Nat
 | 0,_,acc=>acc
 | _+1,[],acc=>acc
 | n+1,b::l,acc=>match acc.contains b with
  | true=>reach h n l acc
  | false=>match h b with
   | some (.var cells)=>reach h n (l++cells.flatMap Cell.refs) (acc ++ [b])
   | _=>reach h n l (acc ++ [b])
def eR (h:Hp) (ids:List Nat) (bI:List AV):St:=
 ⟨bI.map (AV.ay fun b=>posOf b ids),ids.map fun b=>(h b).map (aC.ay fun b=>posOf b ids)⟩
def tn (h:Hp) (ids:List Nat) (bI:List AV):Bool:=
 decide ids.Nodup&&(ids.all fun b=>match h b with|some au=>au.fu ids|none=>false)&&bI.all (·.fu ids)
def pS (h:Hp) (bI:List AV):Option (List Nat×St):=
 let ids:=reach h 200 (bI.flatMap AV.refs) []
 if tn h ids bI then some (ids,eR h ids bI) else none
def eY (P:Program) (f:FuncId) (s s':St):Prop:=
 (∃fn,P.funcs[f]?=some fn/\fn.body.isSome=true/\(fn.name == "runtime.NumGoroutine")=false) /\
 ∀(K:Ctx) (β:Nat->Option bR) (S:Place) (a:Act) (w:World),(∀i R,K.β0 i=some R->i<s.heap.length)->Sat K β S s a w ->
  Calls P f a.tmps w fun e w'=>∃(us:List Value) (β':Nat->Option bR) (S':Place),e=.returned (if us.length=1 then us.getD 0 undef else .tuple us.toArray)/\us.length=s'.tmps.length/\Sat K β' S' s' { a with tmps:=us.toArray } w'
def dn (ids:List Nat) (slot k:Nat):Nat:=if k<ids.length then ids.getD k 0 else slot+(k-ids.length)
def gH (ids:List Nat) (slot:Nat) (ρ:Nat->Nat):List (Option aC)->Nat->List (Nat×Option aC)
 | [],_=>[]
 | o::os,k=>(dn ids slot k,o.map (aC.ay ρ))::gH ids slot ρ os (k+1)
def AV.flat:AV->Bool
 | .pD _=>false
 | _=>true
def wH (ids:List Nat) (slot mF:Nat) (s':St):Option bW:=
 if ids.length<=s'.heap.length/\s'.heap.length<=ids.length+mF/\s'.tmps.all AV.flat=true then
  some { val:=Ho (s'.tmps.map (AV.ay (dn ids slot))),wr:=gH ids slot (dn ids slot) s'.heap 0,rd:=ids }
 else none
section
variable {β β':Nat->Option bR} {S:Place} {w:World} {n:Nat} {ρ:Nat->Nat}
theorem dq.fwd {c:Cell} {v:Value} (h:dq β S w c v) (hb:∀b R,β b=some R->β' (ρ b)=some R):dq β' S w (c.ay ρ) v:=by
 cases h with
 | t h=>exact .t h
 | ptr R h=>exact .ptr R (hb _ _ h)
 | tp cb co val h=>exact .tp cb co val h
 | sl R base cap h h1 h2 h3 h4 h5=>exact .sl R base cap (hb _ _ h) h1 h2 h3 h4 h5
 | mp R h=>exact .mp R (hb _ _ h)
 | dy vs h1 h2=>
  refine .dy vs (by rw[h1,List.length_map]) fun i b r c hi=>?_
  rw[List.getElem?_map]at hi;obtain⟨⟨b',r',c'⟩,lh,e⟩:=Option.map_eq_some_iff.1 hi;cases e;obtain⟨R,e1,e2⟩:=h2 i b' r c lh;exact⟨R,hb _ _ e1,e2⟩
theorem aH.fwd {x:AV} {v:Value} (h:aH β S w x v) (ht:x.aI) (hb:∀b R,β b=some R->β' (ρ b)=some R):aH β' S w (x.ay ρ) v:=by
 cases h with
 | c h=>exact .c (h.fwd hb)
 | agg vs h1 h2=>
  refine .agg vs (by rw[h1,List.length_map]) fun i c hi=>?_
  rw[List.getElem?_map]at hi;obtain⟨c',lh,rfl⟩:=Option.map_eq_some_iff.1 hi;obtain⟨v,e1,e2⟩:=h2 i c' lh;exact⟨v,e1,e2.fwd hb⟩
 | pD vs val h1 h2 h3=>exact ht.elim
 | af=>exact .af v
theorem aC.jw {au:aC} {R:bR}:(au.ay ρ).ext R=au.ext R:=by
 cases au<;>(funext b o;simp[aC.ay,aC.ext])
theorem aC.Ja {au:aC} {R:bR}:(au.ay ρ).wr R=au.wr R:=by
 cases au<;>(funext b o;simp[aC.ay,aC.wr])
theorem eA.fwd {au:aC} {R:bR} {B B':Nat} (h:eA β S w B R au) (hB:B'<=B) (hb:∀b R,β b=some R->β' (ρ b)=some R):eA β' S w B' R (au.ay ρ):=by
 cases au with
 | var cells=>
  refine⟨⟨by rw[List.length_map];exact h.1.1,h.1.2⟩,fun j c hj=>?_⟩;rw[List.getElem?_map]at hj;obtain⟨c',OI,rfl⟩:=Option.map_eq_some_iff.1 hj;obtain⟨v,e1,e2⟩:=h.2 j c' OI;exact⟨v,e1,e2.fwd hb⟩
 | rows sz rows g fz=>exact h
 | map cR=>exact⟨Nat.le_trans hB h.1,h.2⟩
 | gB sz rows=>exact h
theorem nh {b:Nat}:∀ {l:List Nat},b∈l->posOf b l<l.length/\l.getD (posOf b l) 0=b
 | x::l,h=>by
  unfold posOf;split
  ·rename_i e
   exact⟨by simp,by simpa using (Nat.eq_of_beq_eq_true e).symm⟩
  ·rename_i e
   have cY:b≠x:=fun h'=>by rw[h',Nat.beq_refl]at e;cases e
   obtain⟨h1,h2⟩:=nh ((List.mem_cons.1 h).resolve_left cY);exact⟨by simp;omega,by simpa using h2⟩
theorem dq.view {ids:List Nat} {c:Cell} {v:Value} (h:dq β S w c v) (hc:c.fu ids=true):dq (fun k=>if k<ids.length then β (ids.getD k 0) else none) S w (c.ay fun b=>posOf b ids) v:=by
 have key:∀b R,ids.contains b=true->β b=some R->(if posOf b ids<ids.length then β (ids.getD (posOf b ids) 0) else none)=some R:=fun b R hb hR=>by
  obtain⟨h1,h2⟩:=nh (List.contains_iff_mem.1 hb);rw[if_pos h1,h2];exact hR
 cases h with
 | t h=>exact .t h
 | ptr R h=>exact .ptr R (key _ _ hc h)
 | tp cb co val h=>exact .tp cb co val h
 | sl R base cap h h1 h2 h3 h4 h5=>exact .sl R base cap (key _ _ hc h) h1 h2 h3 h4 h5
 | mp R h=>exact .mp R (key _ _ hc h)
 | dy vs h1 h2=>
  refine .dy vs (by rw[h1,List.length_map]) fun i b r c hi=>?_
  rw[List.getElem?_map]at hi;obtain⟨⟨b',r',c'⟩,lh,e⟩:=Option.map_eq_some_iff.1 hi;cases e;obtain⟨R,e1,e2⟩:=h2 i b' r c lh;exact⟨R,key _ _ (List.all_eq_true.1 hc _ (List.mem_of_getElem? lh)) e1,e2⟩
theorem aH.view {ids:List Nat} {x:AV} {v:Value} (h:aH β S w x v) (hc:x.fu ids=true):aH (fun k=>if k<ids.length then β (ids.getD k 0) else none) S w (x.ay fun b=>posOf b ids) v:=by
 cases h with
 | c h=>exact .c (h.view hc)
 | agg vs h1 h2=>
  refine .agg vs (by rw[h1,List.length_map]) fun i c hi=>?_
  rw[List.getElem?_map]at hi;obtain⟨c',lh,rfl⟩:=Option.map_eq_some_iff.1 hi;obtain⟨v,e1,e2⟩:=h2 i c' lh;exact⟨v,e1,e2.view (List.all_eq_true.1 hc c' (List.mem_of_getElem? lh))⟩
 | pD=>cases hc
 | af=>exact .af v
theorem eA.view {ids:List Nat} {au:aC} {R:bR} {B B':Nat} (h:eA β S w B R au) (hc:au.fu ids=true):eA (fun k=>if k<ids.length then β (ids.getD k 0) else none) S w B' R (au.ay fun b=>posOf b ids):=by
 cases au with
 | var cells=>
  refine⟨⟨by rw[List.length_map];exact h.1.1,h.1.2⟩,fun j c hj=>?_⟩;rw[List.getElem?_map]at hj;obtain⟨c',OI,rfl⟩:=Option.map_eq_some_iff.1 hj;obtain⟨v,e1,e2⟩:=h.2 j c' OI;exact⟨v,e1,e2.view (List.all_eq_true.1 hc c' (List.mem_of_getElem? OI))⟩
 | rows sz rows g fz=>exact h
 | map cR=>cases hc
 | gB sz rows=>cases hc
theorem aC.MA {ids:List Nat} {au:aC} (h:au.fu ids=true) {R:bR} {c o:Nat} (hx:au.ext R c o):au.wr R c o:=by
 cases au with
 | var cells=>exact hx
 | rows sz rows g fz=>
  have:fz=false:=by simpa[aC.fu]using h
  subst this;exact⟨hx.1,by simpa using hx.2.1,hx.2.2⟩
 | map=>cases h
 | gB=>cases h
theorem rh:∀(l:List (Nat×Option aC)) (h:bM) (b:Nat) (x:Option aC),(Abs.ids l).Nodup->(b,x)∈l->b<h.length->look (eK h l) b=x
 | p::l,h,b,x,hn,hm,hb=>by
  simp only[Abs.ids,List.map_cons,List.nodup_cons]at hn;rw[iJ];rcases List.mem_cons.1 hm with e|hm
  ·subst e
   rw[LR l _ hn.1,Ap hb]
  ·exact rh l _ b x hn.2 hm (by simpa using hb)
end
section
variable {P:Program} {C:eh} {K:Ctx} {β:Nat->Option bR} {S:Place} {st:St} {a:Act} {w:World} {slot:Nat} {e:bW} {o:Oper} {f:FuncId}
def EV (hv:bM) (βv:Nat->Option bR):Place:=fun c o=>∃k au R,look hv k=some au/\βv k=some R/\au.ext R c o
theorem g9 {h:Hp} {ids:List Nat} {k:Nat} {au:aC} (hl:look (ids.map fun b=>(h b).map (aC.ay fun b=>posOf b ids)) k=some au) :
  k<ids.length/\∃b0,h (ids.getD k 0)=some b0/\au=b0.ay fun b=>posOf b ids:=by
 have bG:=sW hl;rw[List.length_map]at bG;unfold look at hl;rw[List.getElem?_map,List.getElem?_eq_getElem bG]at hl;simp only[Option.map_some,Option.join_some]at hl;obtain⟨b0,h1,h2⟩:=Option.map_eq_some_iff.1 hl;exact⟨bG,b0,by rw[List.getD_eq_getElem?_getD,List.getElem?_eq_getElem bG];exact h1,h2.symm⟩
theorem iK {ids:List Nat} {k:Nat} (h:k<ids.length):ids.getD k 0∈ids:=by
 rw[List.getD_eq_getElem?_getD,List.getElem?_eq_getElem h];exact List.getElem_mem h
theorem getD_inj {ids:List Nat} (hn:ids.Nodup) {i j:Nat} (hi:i<ids.length) (hj:j<ids.length) (h:ids.getD i 0=ids.getD j 0):i=j:=by
 rw[List.getD_eq_getElem?_getD,List.getD_eq_getElem?_getD,List.getElem?_eq_getElem hi,List.getElem?_eq_getElem hj]at h;exact(List.getElem_inj hn).1 h
theorem MB (h:Sat K β S st a w) {ids:List Nat} {bI:List AV} {aT:List Value} (hl:aT.length=bI.length) (hr:∀(i:Nat) (x:AV),bI[i]?=some x->∃v,aT[i]?=some v/\aH β S w x v)
  (hn:ids.Nodup) (hb:∀b∈ids,∃au,look st.heap b=some au/\au.fu ids=true) (ha:∀x∈bI,x.fu ids=true) :
  Sat ⟨w,EV (eR (look st.heap) ids bI).heap (fun k=>if k<ids.length then β (ids.getD k 0) else none),S,fun k=>if k<ids.length then β (ids.getD k 0) else none⟩
   (fun k=>if k<ids.length then β (ids.getD k 0) else none) S (eR (look st.heap) ids bI) { a with tmps:=aT.toArray } w:=by
 refine⟨by simp[eR,hl],h.defers,fun t x ht=>?_,fun k R hk=>?_,fun k au hk=>?_,fun k k' au db R R' cY hk yu hR gW=>?_,h.sN,fun _ _ hs=>.inl hs,fun _ _ hs=>hs,fh.refl _ _,fun _ _ hi=>hi⟩
 ·simp only[eR,List.getElem?_map]at ht
  obtain⟨x0,h1,rfl⟩:=Option.map_eq_some_iff.1 ht;obtain⟨v,h2,h3⟩:=hr t x0 h1;have:({ a with tmps:=aT.toArray }:Act).tmps.getD t undef=v:=by simp[h2]
  rw[this];exact h3.view (ha x0 (List.mem_of_getElem? h1))
 ·split at hk
  ·rename_i bG;simpa[eR]using bG
  ·cases hk
 ·obtain⟨bG,b0,h1,h2⟩:=g9 hk
  obtain⟨b1,h3,h4⟩:=hb _ (iK bG);rw[h3]at h1;cases h1;obtain⟨R,g1,g2,g3,g4⟩:=h.au _ _ h3;subst h2;have hβ:(if k<ids.length then β (ids.getD k 0) else none)=some R:=by rw[if_pos bG];exact g1
  refine⟨R,hβ,g2.view h4,fun c o hx=>⟨?_,.inr ⟨k,_,R,hk,hβ,hx⟩⟩,fun c o hx=>?_⟩
  ·rw[aC.jw]at hx;exact(g3 c o hx).1
  ·rw[aC.Ja]at hx;exact g4 c o hx
 ·obtain⟨bG,b0,h1,h2⟩:=g9 hk
  obtain⟨tc,b0',Q5,I4⟩:=g9 yu;rw[if_pos bG]at hR;rw[if_pos tc]at gW;have:=h.mz (ids.getD k 0) (ids.getD k' 0) _ _ R R' (fun e=>cY (getD_inj hn bG tc e)) h1 Q5 hR gW;subst h2 I4;rw[aC.jw,aC.jw];exact this
theorem wJ {ids:List Nat} {slot:Nat} {ρ:Nat->Nat}:∀(l:List (Option aC)) (k0:Nat),(∀p∈gH ids slot ρ l k0,∃j,j<l.length/\p=(dn ids slot (k0+j),((l[j]?).join).map (aC.ay ρ)))/\(∀j,j<l.length->(dn ids slot (k0+j),((l[j]?).join).map (aC.ay ρ))∈gH ids slot ρ l k0)
 | [],k0=>⟨by simp[gH],by simp⟩
 | x::l,k0=>by
  obtain⟨h1,h2⟩:=wJ (ids:=ids) (slot:=slot) (ρ:=ρ) l (k0+1);refine⟨fun p hp=>?_,fun j hj=>?_⟩
  ·rw[gH]at hp
   rcases List.mem_cons.1 hp with rfl|hp
   ·exact⟨0,by simp,by simp⟩
   ·obtain⟨j,e1,e2⟩:=h1 p hp
    exact⟨j+1,by simpa using e1,by rw[e2,show k0+1+j=k0+(j+1) by omega];simp⟩
  ·rw[gH]
   cases j with
   | zero=>simp
   | succ j=>
    have:=h2 j (by simpa using hj);rw[show k0+1+j=k0+(j+1) by omega]at this;exact List.mem_cons_of_mem _ (by simpa using this)
theorem EW {ids:List Nat} {slot mF:Nat} (hn:ids.Nodup) (hs:∀b∈ids,b<slot∨slot+mF<=b) {i j:Nat} (lh:i<ids.length+mF) (OI:j<ids.length+mF) (h:dn ids slot i=dn ids slot j):i=j:=by
 unfold dn at h;split at h
 ·rename_i hi
  split at h
  ·rename_i hj;exact getD_inj hn hi hj h
  ·have:=hs _ (iK hi);omega
 ·split at h
  ·rename_i hj
   have:=hs _ (iK hj);omega
  ·omega
theorem pT {ids:List Nat} {slot:Nat} {ρ:Nat->Nat}:∀(l:List (Option aC)) (k0:Nat),Abs.ids (gH ids slot ρ l k0)=(List.range' k0 l.length).map (dn ids slot)
 | [],k0=>rfl
 | x::l,k0=>by
  have:=pT (ids:=ids) (slot:=slot) (ρ:=ρ) l (k0+1);simp only[Abs.ids]at this;simp[gH,Abs.ids,this,List.range'_succ]
theorem MC (h:Sat K β S st a w) {sS:FuncId} {ids:List Nat} {bI:List AV} {aT:List Value} {s':St} {mF:Nat} (hl:aT.length=bI.length) (hr:∀(i:Nat) (x:AV),bI[i]?=some x->∃v,aT[i]?=some v/\aH β S w x v)
  (hv:tn (look st.heap) ids bI=true) (bY:eY P sS (eR (look st.heap) ids bI) s') (hs:0<mF->slot+mF<=st.heap.length) (hf:∀b,slot<=b->b<slot+mF->β b=none)
  (he:wH ids slot mF s'=some e) :
  Calls P sS aT.toArray w fun en w'=>∃v β' S',en=.returned v/\(∀b,b<slot∨slot+mF<=b->β' b=β b)/\Sat K β' S' ⟨st.tmps,eK st.heap e.wr⟩ a w'/\aH β' S' w' e.val v:=by
 unfold tn at hv;simp only[Bool.and_eq_true]at hv;obtain⟨⟨J4,Ex⟩,ha0⟩:=hv;have hn:ids.Nodup:=by simpa using J4
 have hb:∀b∈ids,∃au,look st.heap b=some au/\au.fu ids=true:=fun b hb=>by
  have:=List.all_eq_true.1 Ex b hb;split at this
  ·exact⟨_,by assumption,this⟩
  ·cases this
 have ha:∀x∈bI,x.fu ids=true:=List.all_eq_true.1 ha0;unfold wH at he;split at he
 ·rename_i hlen
  cases he;have Jb:∀x∈s'.tmps,x.aI:=fun x hx=>by
   have:=List.all_eq_true.1 hlen.2.2 x hx;cases x<;>first|trivial|(simp[AV.flat]at this)
  have kC:=MB h hl hr hn hb ha;refine(bY.2 _ _ S { a with tmps:=aT.toArray } w (fun i R hi=>?_) kC).mono ?_
  ·simp only at hi
   split at hi
   ·rename_i bG;simpa[eR]using bG
   ·cases hi
  rintro en w' ⟨us,β1,S1,rfl,GZ,h1⟩
  have Po:∀b∈ids,b<slot∨slot+mF<=b:=fun b MD=>by
   obtain⟨au,e1,_⟩:=hb b MD;obtain⟨R,e2,_⟩:=h.au b au e1;rcases Nat.lt_or_ge b slot with h'|h'
   ·exact .inl h'
   ·rcases Nat.lt_or_ge b (slot+mF) with Hu|Hu
    ·rw[hf b h' Hu]at e2;cases e2
    ·exact .inr Hu
  have Mx:∀b∈ids,b<st.heap.length:=fun b MD=>by obtain⟨au,e1,_⟩:=hb b MD;exact sW e1
  let β2:Nat->Option bR:=fun b=>if slot<=b/\b<slot+mF then β1 (ids.length+(b-slot)) else β b
  have Kb:∀b R,β b=some R->β2 b=some R:=fun b R hR=>by
   show(if _ then _ else _)=_
   rw[if_neg (fun hc=>by rw[hf b hc.1 hc.2]at hR;cases hR)];exact hR
  have re:∀k R,β1 k=some R->β2 (dn ids slot k)=some R:=fun k R hR=>by
   have hk:=h1.top k R hR;unfold dn;split
   ·rename_i bG
    obtain⟨au,e1,_⟩:=hb _ (iK bG);obtain⟨R0,e2,_⟩:=h.au _ au e1;have e3:=h1.arg k R0 (by simp only;rw[if_pos bG];exact e2);rw[hR]at e3;cases e3;exact Kb _ _ e2
   ·show(if _ then _ else _)=_
    rw[if_pos (by omega),show ids.length+(slot+(k-ids.length)-slot)=k by omega];exact hR
  have ME:∀c o,EV (eR (look st.heap) ids bI).heap (fun k=>if k<ids.length then β (ids.getD k 0) else none) c o->∃b∈ids,∃au R,look st.heap b=some au/\au.fu ids=true/\β b=some R/\au.ext R c o:=by
   rintro c o ⟨k,au,R,g1,g2,g3⟩
   obtain⟨bG,b0,g4,rfl⟩:=g9 g1;obtain⟨b1,g5,g6⟩:=hb _ (iK bG);rw[g5]at g4;cases g4;rw[aC.jw]at g3;simp only at g2;rw[if_pos bG]at g2;exact⟨_,iK bG,_,R,g5,g6,g2,g3⟩
  have aaZ:(eK st.heap (gH ids slot (dn ids slot) s'.heap 0)).length=st.heap.length:=Mi _ _;have oO:(Abs.ids (gH ids slot (dn ids slot) s'.heap 0)).Nodup:=by
   rw[pT];refine List.pairwise_map.2 (List.Pairwise.imp_of_mem ?_ (List.nodup_range' (step:=1)));intro i j hi hj Eh he;rw[List.mem_range'_1]at hi hj;exact Eh (EW hn Po (by omega) (by omega) he)
  have aa0:∀k,k<s'.heap.length->dn ids slot k<st.heap.length:=fun k hk=>by
   unfold dn;split
   ·rename_i bG;exact Mx _ (iK bG)
   ·have:=hs (by omega);omega
  have mW:∀k,k<s'.heap.length->look (eK st.heap (gH ids slot (dn ids slot) s'.heap 0)) (dn ids slot k)=(look s'.heap k).map (aC.ay (dn ids slot)):=fun k hk=>by
   have:=(wJ (ids:=ids) (slot:=slot) (ρ:=dn ids slot) s'.heap 0).2 k hk;rw[Nat.zero_add]at this;exact rh _ _ _ _ oO this (aa0 k hk)
  let D:Nat->Prop:=fun b=>∃k,k<s'.heap.length/\b=dn ids slot k
  have Wa:∀b∈ids,D b:=fun b MD=>by
   obtain⟨g1,g2⟩:=nh MD;exact⟨posOf b ids,by omega,by unfold dn;rw[if_pos g1,g2]⟩
  have MF:∀b,¬D b->look (eK st.heap (gH ids slot (dn ids slot) s'.heap 0)) b=look st.heap b:=fun b hD=>by
   refine LR _ _ fun hm=>hD ?_
   rw[pT]at hm;obtain⟨k,hk,rfl⟩:=List.mem_map.1 hm;rw[List.mem_range'_1]at hk;exact⟨k,by omega,rfl⟩
  have Hv:∀c o,(w.heap.size<=c∨EV (eR (look st.heap) ids bI).heap (fun k=>if k<ids.length then β (ids.getD k 0) else none) c o)->K.B0<=c∨K.W c o:=by
   rintro c o (hc|hc)
   ·exact .inl (by have:=h.jF.size;unfold Ctx.B0;omega)
   ·obtain⟨b,_,au,R,g1,_,g3,g4⟩:=ME c o hc
    obtain⟨R',k1,_,k3,_⟩:=h.au b au g1;rw[g3]at k1;cases k1;exact(k3 c o g4).2
  have pE:∀c o,(w.heap.size<=c∨EV (eR (look st.heap) ids bI).heap (fun k=>if k<ids.length then β (ids.getD k 0) else none) c o)->∀b au R,¬D b->look st.heap b=some au->β b=some R->¬au.ext R c o:=by
   rintro c o hc b au R hD gT hR hx
   obtain⟨R',k1,_,k3,_⟩:=h.au b au gT;rw[hR]at k1;cases k1;rcases hc with hc|hc
   ·have:=(k3 c o hx).1;omega
   ·obtain⟨b2,hm,Ke,R2,g1,_,g3,g4⟩:=ME c o hc
    exact h.mz b2 b Ke au R2 R (fun e=>hD (e▸Wa b2 hm)) g1 gT g3 hR c o g4 hx
  have fY:Sat K β2 S1 ⟨st.tmps,eK st.heap (gH ids slot (dn ids slot) s'.heap 0)⟩ a w':=by
   refine h.step (Wr:=EV (eR (look st.heap) ids bI).heap (fun k=>if k<ids.length then β (ids.getD k 0) else none)) D h1.jF (fun c o hx bG=>?_) Kb (fun b R hR=>?_) h1.sub (fun c o iW=>?_) (fun b au hD gT=>by rw[MF b hD]at gT;exact gT) (fun b au hD gT=>?_)
   ·refine⟨fun hsS=>?_,Hv c o (.inr hx),pE c o (.inr hx)⟩
    obtain⟨b,hm,au,R,g1,g2,g3,g4⟩:=ME c o hx;obtain⟨R',k1,_,_,k4⟩:=h.au b au g1;rw[g3]at k1;cases k1;exact k4 c o (aC.MA g2 g4) hsS
   ·rw[aaZ]
    have gW:(if slot<=b/\b<slot+mF then β1 (ids.length+(b-slot)) else β b)=some R:=hR;split at gW
    ·have:=hs (by omega);omega
    ·exact h.top b R gW
   ·rcases h1.sin c o iW with Ps|Ps
    ·exact .inl Ps
    ·exact .inr ⟨h1.sN c o iW,Hv c o Ps,fun b au R hD gT hR hx=>pE c o Ps b au R hD gT hR (aC.fG hx)⟩
   ·obtain⟨k,hk,rfl⟩:=hD
    rw[mW k hk]at gT;obtain⟨Wb,mO,rfl⟩:=Option.map_eq_some_iff.1 gT;obtain⟨R,q1,q2,q3,q4⟩:=h1.au k Wb mO;refine⟨R,re k R q1,q2.fwd h.jF.size re,fun c o hx=>?_,fun c o hx=>?_,fun b2 Ke R2 cY mX qK c o hx hy=>?_⟩
    ·rw[aC.jw]at hx
     exact⟨(q3 c o hx).1,Hv c o (q3 c o hx).2⟩
    ·rw[aC.Ja]at hx;exact q4 c o hx
    ·rw[aC.jw]at hx
     by_cases ly:D b2
     ·obtain⟨k2,GU,rfl⟩:=ly
      rw[mW k2 GU]at mX;obtain⟨Wc,hb3,rfl⟩:=Option.map_eq_some_iff.1 mX;obtain⟨R3,r1,_⟩:=h1.au k2 Wc hb3;have r2:=re k2 R3 r1;rw[qK]at r2;cases r2;rw[aC.jw]at hy;exact h1.mz k k2 Wb Wc R R2 (fun e=>cY (by rw[e])) mO hb3 q1 r1 c o hx hy
     ·rw[MF b2 ly]at mX
      have aa1:β b2=some R2:=by
       obtain⟨R3,r1,_⟩:=h.au b2 Ke mX;have:=Kb b2 R3 r1;rw[qK]at this;cases this;exact r1
      exact pE c o (q3 c o hx).2 b2 Ke R2 ly mX aa1 hy
  refine⟨_,β2,S1,rfl,fun b wk=>?_,fY,?_⟩
  ·show(if _ then _ else _)=_
   rw[if_neg (by omega)]
  ·refine wD (by rw[GZ,List.length_map]) fun i x hi=>?_
   rw[List.getElem?_map]at hi;obtain⟨y,hy,rfl⟩:=Option.map_eq_some_iff.1 hi;have bG:i<us.length:=by rw[GZ];exact(List.getElem?_eq_some_iff.1 hy).1
   have:=h1.tmps i y hy;refine⟨us[i],List.getElem?_eq_getElem bG,?_⟩;have e1:({ ({ a with tmps:=aT.toArray }:Act) with tmps:=us.toArray }:Act).tmps.getD i undef=us[i]:=by simp[bG]
   rw[e1]at this;exact this.fwd (Jb y (List.mem_of_getElem? hy)) re
 ·cases he
end
def St.app (st:St) (o:Oper) (e:bW):St:=⟨match o.dst with|some d=>st.tmps.set d e.val|none=>st.tmps,eK st.heap e.wr⟩
def CN (want:Bool):AV->Option Bool
 | .pD []=>some false
 | x=>x.bool?.map (· == want)
def ri:bW:={ val:=.pD [] }
def ir (tmps:List AV) (ops:List Oper) (o:Oper):Option Bool:=
 match o.guard with
 | none=>some true
 | some (j,want)=>match(ops[j]?).bind (·.dst) with
  | some d=>CN want (tmps.getD d .af)
  | none=>none
theorem CO (g:FuncId):Nat.blt g oL=decide (g<oL):=by
 rw[Bool.eq_iff_iff,decide_eq_true_eq,Nat.blt_eq]
def tq (fv:AV) (bI:List AV):Option (FuncId×List AV):=
 match fv with
 | .c (.t (.v (.func (.func g) first cap)))=>if first.size=0/\cap.size=0 then some (g,bI) else none
 | .c (.dy g aK)=>match decide (g<oL) with
  | true=>some (g,bI++aK.map fun p=>.c (.ptr p.1 p.2.1 p.2.2))
  | false=>some (g-oL,(aK.map fun p=>.c (.ptr p.1 p.2.1 p.2.2))++bI)
 | _=>none
def fw (P:Program) (C:eh) (ops:List Oper) (slot:Nat) (o:Oper) (st:St) (k:bW->Prop):Prop:=
 match ir st.tmps ops o with
 | none=>False
 | some false=>k ri
 | some true=>
  match o.op with
  | .call { callee:=.value f,args,.. }=>
   match tq (st.get f) (args.toList.map st.get) with
   | none=>False
   | some (sS,bI)=>
    match C.md sS with
    | .sh _::_=>
     match pS (look st.heap) bI with
     | none=>False
     | some (ids,s)=>∃s',eY P sS s s'/\match wH ids slot (slotsOf C o.op) s' with
      | some e=>k e
      | none=>False
    | ms=>
     match eQ (look st.heap) ms bI with
     | none=>False
     | some (as,marks,dQ)=>∃res,ah P sS as res/\match gG (look st.heap) slot marks dQ res with
      | some e=>k e
      | none=>False
  | op=>match evalOp C slot st.get (look st.heap) op with
   | some e=>k e
   | none=>False
section
variable {P:Program} {C:eh} {K:Ctx} {β:Nat->Option bR} {S:Place} {st:St} {a:Act} {w:World} {slot:Nat} {e:bW} {o:Oper} {ops:List Oper}
theorem EX {C:eh} {σ:Operand->AV} {h:Hp} {op:Op} (hs:slotsOf C op=0) (s s':Nat):evalOp C s σ h op=evalOp C s' σ h op:=by
 cases op with
 | call c=>
  obtain⟨callee,args,argTypes⟩:=c;cases callee with
  | builtin b=>cases b<;>first|(simp[slotsOf]at hs;done)|rfl|(simp only[evalOp];split<;>first|rfl|simp_all)
  | _=>rfl
 | makeFunc fn first aK=>cases fn<;>rfl
 | _=>first|(simp[slotsOf]at hs;done)|rfl
theorem MG (hC:bq P C) (h:Sat K β S st a w) (h0:slotsOf C o.op=0) (he:evalOp C slot st.get (look st.heap) o.op=some e) :
  ∃w' β' S' v nx,(execOp a.eval o).run P w=.ok nx w'/\(nx=.value v∨(nx=.skip/\v=undef))/\(∀b,β' b=β b)/\Sat K β' S' ⟨st.tmps,eK st.heap e.wr⟩ a w'/\aH β' S' w' e.val v:=by
 rw[EX h0 slot st.heap.length]at he;obtain⟨w',β',S',v,nx,h1,h2,h3,h4,h5⟩:=I9 hC h (fun hn=>absurd h0 hn) he;refine⟨w',β',S',v,nx,h1,h2,fun b=>?_,h4,h5⟩
 by_cases hb:b=st.heap.length
 ·subst hb
  have e1:β st.heap.length=none:=by
   cases hx:β st.heap.length with
   | none=>rfl
   | some R=>have:=h.top _ _ hx;omega
  have e2:β' st.heap.length=none:=by
   cases hx:β' st.heap.length with
   | none=>rfl
   | some R=>have:=h4.top _ _ hx;rw[Mi]at this;omega
  rw[e1,e2]
 ·exact h3 b hb
theorem AE (h:Sat K β S st a w) {b:Bool} (hw:ir st.tmps ops o=some b):Region.wanted o (yielded ops.toArray a.tmps)=b:=by
 unfold ir at hw;unfold Region.wanted;split at hw
 ·cases hw;simp_all
 ·rename_i j want hg
  rw[hg];simp only;split at hw
  ·rename_i d hd
   have bG:d<st.tmps.length:=by
    rcases Nat.lt_or_ge d st.tmps.length with h|h
    ·exact h
    ·rw[List.getD_eq_getElem?_getD,List.getElem?_eq_none h]at hw;simp[CN,AV.bool?]at hw
   have hv:=h.tmps d _ (List.getElem?_eq_getElem bG);rw[List.getD_eq_getElem?_getD,List.getElem?_eq_getElem bG,Option.getD_some]at hw;unfold CN at hw;split at hw
   ·rename_i hx
    cases hw;rw[hx]at hv;have hun:a.tmps.getD d undef=.tuple #[]:=by
     generalize a.tmps.getD d undef=v at hv;cases hv with
     | pD vs val h1 h2 h3=>
      have:vs=[]:=List.length_eq_zero_iff.1 h1;subst this;rfl
    have tc:d<a.tmps.size:=by rw[h.len];exact bG
    have hy:yielded ops.toArray a.tmps j=none:=by
     unfold yielded;have:(ops.toArray[j]?).bind (·.dst)=some d:=by simpa using hd
     rw[this];simp only[Option.bind_some];rw[Array.getD_eq_getD_getElem?,Array.getElem?_eq_getElem tc,Option.getD_some]at hun;rw[Array.getElem?_eq_getElem tc,hun]
    rw[hy];rfl
   obtain⟨c,h1,h2⟩:=Option.map_eq_some_iff.1 hw;have hb:=hv.bool h1;have tc:d<a.tmps.size:=by rw[h.len];exact bG
   have hy:yielded ops.toArray a.tmps j=some c:=by
    unfold yielded;have:(ops.toArray[j]?).bind (·.dst)=some d:=by simpa using hd
    rw[this];simp only[Option.bind_some];rw[Array.getD_eq_getD_getElem?,Array.getElem?_eq_getElem tc,Option.getD_some]at hb;rw[Array.getElem?_eq_getElem tc,hb]
   rw[hy,<-h2];simp
  ·cases hw
theorem lz (h:Sat K β S ⟨st.tmps,eK st.heap e.wr⟩ a w) {v:Value} (hv:aH β S w e.val v):Sat K β S (st.app o e) (a.put o.dst v) w:=h.put hv o.dst
theorem wK (h:Sat K β S st a w) {f:Operand} {args:Array Operand} {sS:FuncId} {bI:List AV} (hc:tq (st.get f) (args.toList.map st.get)=some (sS,bI))
  {argTypes:Array TypeId} (ho:o.op=.call { callee:=.value f,args,argTypes }) (jm:∃fn,P.funcs[sS]?=some fn/\fn.body.isSome=true/\(fn.name == "runtime.NumGoroutine")=false) :
  ∃aT:List Value,(execOp a.eval o).run P w=.ok (.enter sS aT.toArray) w/\aT.length=bI.length/\∀(i:Nat) (x:AV),bI[i]?=some x->∃v,aT[i]?=some v/\aH β S w x v:=by
 have hf:=h.get f;obtain⟨fn,f1,f2,f3⟩:=jm;have dB:fn.body.isNone=false:=by cases hb:fn.body<;>simp_all
 have cZ:∀(cap:Array Value),a.eval f=.func (.func sS) #[] cap->(execOp a.eval o).run P w=.ok (.enter sS (args.map a.eval++cap)) w:=by
  intro cap Ef;simp only[execOp,ho,resolve,Ef,Deferred.ofValue,invoke,callFunc,Sem.run_bind,Sem.run_pure,Result.andThen,run_program,f1,f3,dB,Bool.false_eq_true,if_false,Array.empty_append]
 have dG:∀(i:Nat) (x:AV),(args.toList.map st.get)[i]?=some x->∃v,(args.toList.map a.eval)[i]?=some v/\aH β S w x v:=by
  intro i x hi;rw[List.getElem?_map]at hi ⊢;obtain⟨y,h1,rfl⟩:=Option.map_eq_some_iff.1 hi;exact⟨a.eval y,by rw[h1];rfl,h.get y⟩
 unfold tq at hc;split at hc
 ·rename_i g first cap hg
  split at hc
  ·rename_i dS
   cases hc;rw[hg]at hf;obtain⟨hf,_⟩:=hf.scalar;have h1:first=#[]:=Array.eq_empty_of_size_eq_zero dS.1
   have h2:cap=#[]:=Array.eq_empty_of_size_eq_zero dS.2;subst h1 h2;refine⟨args.toList.map a.eval,?_,by simp,dG⟩;rw[cZ _ hf];congr 2;apply Array.ext';simp
  ·cases hc
 ·rename_i g aK hg
  split at hc
  rotate_left
  ·rename_i Hw
   rw[<-CO]at Hw;generalize hk:g-oL=k at hc;cases hc;rw[hg]at hf;cases hf with|c hf=>
   generalize Ef:a.eval f=fv at hf;cases hf with|dy vs h1 h2=>
   have hcv:j7 g vs=.func (.func sS) vs.toArray #[]:=by rw[Aj Hw,hk]
   clear hk;have EN:(execOp a.eval o).run P w=.ok (.enter sS (vs.toArray++args.map a.eval)) w:=by
    simp only[execOp,ho,resolve,Ef,hcv,Deferred.ofValue,invoke,callFunc,Sem.run_bind,Sem.run_pure,Result.andThen,run_program,f1,f3,dB,Bool.false_eq_true,if_false,Array.append_empty]
   have CQ:vs.toArray++args.map a.eval=(vs++args.toList.map a.eval).toArray:=by apply Array.ext';simp
   rw[CQ]at EN;refine⟨vs++args.toList.map a.eval,EN,by simp[h1],fun i x hi=>?_⟩;rw[List.getElem?_append]at hi ⊢;simp only[List.length_map]at hi;rw[h1];split at hi
   ·rename_i bG
    rw[if_pos bG];rw[List.getElem?_map]at hi;obtain⟨p,q1,rfl⟩:=Option.map_eq_some_iff.1 hi;obtain⟨R,q2,q3⟩:=h2 _ p.1 p.2.1 p.2.2 q1;exact⟨_,q3,.c (.ptr R q2)⟩
   ·rename_i GL
    rw[if_neg GL];exact dG _ x hi
  rename_i Hw;rw[<-CO]at Hw;cases hc;rw[hg]at hf;cases hf with|c hf=>
  generalize Ef:a.eval f=fv at hf;cases hf with|dy vs h1 h2=>
  refine⟨args.toList.map a.eval++vs,?_,by simp[h1],fun i x hi=>?_⟩
  ·rw[cZ _ (by rw[Ef,Ai Hw])]
   congr 2;apply Array.ext';simp
  ·rw[List.getElem?_append]at hi ⊢
   simp only[List.length_map]at hi ⊢;split at hi
   ·rename_i bG
    rw[if_pos bG];exact dG i x hi
   ·rename_i GL
    rw[if_neg GL];rw[List.getElem?_map]at hi;obtain⟨p,q1,rfl⟩:=Option.map_eq_some_iff.1 hi;obtain⟨R,q2,q3⟩:=h2 _ p.1 p.2.1 p.2.2 q1;exact⟨_,q3,.c (.ptr R q2)⟩
 ·cases hc
theorem wL (hC:bq P C) (h:Sat K β S st a w) (jN:∀s,slot<=s->s<slot+slotsOf C o.op->s<st.heap.length/\β s=none) {k:bW->Prop} (hk:fw P C ops slot o st k)
  {next:Act->World->Prop} {Q:Exit->Act->World->Prop} (hn:∀e w' v β' S',k e->Sat K β' S' (st.app o e) (a.put o.dst v) w'->(∀b,b<slot∨slot+slotsOf C o.op<=b->β' b=β b)->next (a.put o.dst v) w') :
  if Region.wanted o (yielded ops.toArray a.tmps) then o.wp P a w next Q∨(o.asks P a w/\LetsOut Q) else next (a.put o.dst undef) w:=by
 unfold fw at hk;split at hk
 ·exact hk.elim
 ·rename_i hw
  rw[AE h hw];simp only[Bool.false_eq_true,if_false];exact hn ri w undef β S hk (lz h (.pD [] (fun _=>undef) rfl (by simp) (by simp))) fun _ _=>rfl
 ·rename_i hw
  rw[AE h hw];simp only[if_true];left;unfold Oper.wp;split at hk
  ·rename_i f args argTypes eJ
   split at hk
   ·exact hk.elim
   ·rename_i sS bI hc
    split at hk
    ·rename_i n0 YO OJ
     split at hk
     ·exact hk.elim
     ·rename_i ids s hp
      obtain⟨s',bY,hk⟩:=hk;split at hk
      ·rename_i e he
       simp only[pS]at hp;split at hp
       ·rename_i hvo
        cases hp;obtain⟨aT,h1,h2,h3⟩:=wK h hc eJ bY.1;rw[h1];refine(MC h h2 h3 hvo bY (fun h0=>by have:=(jN (slot+(slotsOf C o.op-1)) (by omega) (by omega)).1;omega) (fun b e1 e2=>(jN b e1 e2).2) he).mono ?_
        rintro en w' ⟨v,β',S',rfl,q1,q2,q3⟩
        exact hn e w' v β' S' hk (lz q2 q3) q1
       ·cases hp
      ·exact hk.elim
    ·rename_i MH
     split at hk
     ·exact hk.elim
     ·rename_i as marks dQ hp
      obtain⟨res,bY,hk⟩:=hk;split at hk
      ·rename_i e he
       obtain⟨aT,h1,h2,h3⟩:=wK h hc eJ bY.1;rw[h1];have h2s:slotsOf C o.op=2:=by
        rw[eJ];cases f with
        | func f'=>
         have Yu:f'=sS:=by
          simp only[St.get,tq]at hc;split at hc
          ·cases hc;rfl
          ·cases hc
         subst Yu;show(match C.md f' with|.sh n::_=>n|_=>2)=2
         split
         ·rename_i OJ;exact absurd OJ (MH _ _)
         ·rfl
        | _=>rfl
       rw[h2s]at jN hn;refine(Hr h h2 h3 hp bY (by have:=jN (slot+1) (by omega) (by omega);omega) (fun b e1 e2=>(jN b e1 e2).2) he).mono ?_
       rintro en w' ⟨v,β',S',rfl,q1,q2,q3⟩
       exact hn e w' v β' S' hk (lz q2 q3) q1
      ·exact hk.elim
  ·rename_i op UH
   split at hk
   ·rename_i e he
    by_cases h0:slotsOf C o.op=0
    ·obtain⟨w',β',S',v,nx,q1,q2,q3,q4,q5⟩:=MG hC h h0 he
     rw[q1];rcases q2 with rfl|⟨rfl,rfl⟩
     ·exact hn e w' v β' S' hk (lz q4 q5) fun b _=>q3 b
     ·exact hn e w' undef β' S' hk (lz q4 q5) fun b _=>q3 b
    ·have h1:slotsOf C o.op=1:=by
      cases eJ:o.op with
      | call c=>
       obtain⟨callee,args,argTypes⟩:=c;cases callee with
       | value f=>exact absurd eJ (by intro hh;exact UH _ _ _ hh)
       | builtin b=>rw[eJ]at h0;cases b<;>first|rfl|exact absurd rfl h0
       | invoke r m=>rw[eJ]at h0;exact absurd rfl h0
      | _=>rw[eJ]at h0;first|rfl|exact absurd rfl h0
     rw[h1]at jN hn;obtain⟨hs,hf⟩:=jN slot (Nat.le_refl _) (by omega);obtain⟨w',β',S',v,nx,q1,q2,q3,q4,q5⟩:=I9 hC h (fun _=>⟨hs,hf⟩) he;rw[q1];rcases q2 with rfl|⟨rfl,rfl⟩
     ·exact hn e w' v β' S' hk (lz q4 q5) fun b hb=>q3 b (by omega)
     ·exact hn e w' undef β' S' hk (lz q4 q5) fun b hb=>q3 b (by omega)
   ·exact hk.elim
end
def bB (C:eh):List Oper->Nat
 | []=>0
 | o::os=>slotsOf C o.op+bB C os
def wM (P:Program) (C:eh) (ops:List Oper):List Oper->Nat->St->List bW->(List bW->St->Prop)->Prop
 | [],_,st,tr,Q=>Q tr st
 | o::os,slot,st,tr,Q=>fw P C ops slot o st fun e=>wM P C ops os (slot+slotsOf C o.op) (st.app o e) (tr ++ [e]) Q
def St.ext (st:St) (n:Nat):St:=⟨st.tmps,st.heap++List.replicate n none⟩
inductive bf where
 | normal
 | exit (id:Nat)
 | ret
 deriving DecidableEq
def toA:Exit->Option bf
 | .normal=>some .normal
 | .exit id=>some (.exit id)
 | .ret=>some .ret
 | _=>none
def MI (K:Ctx) (Q:bf->St->Prop):Exit->Act->World->Prop:=fun e a w=>∃x st,toA e=some x/\Q x st/\∃β S,Sat K β S st a w
def dH (P:Program) (n0:Nat) (c:Code) (st:St) (Q:bf->St->Prop):Prop:=
 ∀(K:Ctx),(∀i R,K.β0 i=some R->i<n0)->∀(β:Nat->Option bR) (S:Place) (a:Act) (w:World),Sat K β S st a w->c.wp P (MI K Q) a w
section
variable {P:Program} {C:eh} {K:Ctx} {β:Nat->Option bR} {S:Place} {st:St} {a:Act} {w:World} {slot:Nat} {e:bW} {o:Oper} {ops:List Oper} {n0:Nat} {Q Q':bf->St->Prop}
theorem wN (h:bM) (n b:Nat):look (h++List.replicate n none) b=look h b:=by
 unfold look;rw[List.getElem?_append];split
 ·rfl
 ·rename_i GL
  rw[List.getElem?_eq_none (l:=h) (by omega),List.getElem?_replicate];split<;>rfl
theorem Sat.ext (h:Sat K β S st a w) (n:Nat):Sat K β S (st.ext n) a w:=
 ⟨h.len,h.defers,h.tmps,fun b R hb=>by have:=h.top b R hb;simp[St.ext];omega,fun b au hb=>h.au b au (by rw[<-wN st.heap n b];exact hb),
  fun b b' au db R R' cY hb bK=>h.mz b b' au db R R' cY (by rw[<-wN st.heap n b];exact hb) (by rw[<-wN st.heap n b'];exact bK),h.sN,h.sin,h.sub,h.jF,h.arg⟩
theorem wO (st:St) (o:Oper) (e:bW):(st.app o e).heap.length=st.heap.length:=Mi _ _
theorem wP (hC:bq P C):∀(os pre:List Oper) (slot:Nat) (st:St) (tr:List bW) (β:Nat->Option bR) (S:Place) (a:Act) (w:World),ops=pre++os->Sat K β S st a w ->
  (∀s,slot<=s->s<slot+bB C os->s<st.heap.length/\β s=none)->wM P C ops os slot st tr (fun _ tu=>Q .normal tu) ->
  wpOps P ops.toArray (MI K Q) (List.range' pre.length os.length) a w
 | [],pre,slot,st,tr,β,S,a,w,_,h,_,hk=>by
  simp only[List.length_nil,List.range'_zero,wpOps];exact⟨.normal,st,rfl,hk,β,S,h⟩
 | o::os,pre,slot,st,tr,β,S,a,w,We,h,jN,hk=>by
  simp only[List.length_cons,List.range'_succ,wpOps];have fX:ops.toArray[pre.length]?=some o:=by simp[We]
  rw[fX];simp only[bB]at jN;refine wL hC h (fun s h1 h2=>jN s h1 (by omega)) hk fun e w' v β' S' yu sR hβ'=>?_
  have:=wP hC os (pre ++ [o]) (slot+slotsOf C o.op) (st.app o e) (tr ++ [e]) β' S' (a.put o.dst v) w' (by rw[We];simp) sR (fun s h1 h2=>by
   obtain⟨e1,e2⟩:=jN s (by omega) (by omega);exact⟨by rw[wO];exact e1,by rw[hβ' s (by omega)];exact e2⟩) yu
  rwa[List.length_append]at this
theorem dH.region (hC:bq P C) {id:Nat} {ops:Array Oper} (hk:wM P C ops.toList ops.toList st.heap.length (st.ext (bB C ops.toList)) [] fun _ tu=>Q .normal tu):dH P n0 (.region id ops false) st Q:=by
 intro K hn β S a w h;refine wp_region ?_;have:=wP (K:=K) (Q:=Q) hC ops.toList [] st.heap.length (st.ext (bB C ops.toList)) [] β S a w rfl (h.ext _) (fun s h1 h2=>by
  refine⟨by simp[St.ext];omega,?_⟩;cases hx:β s with
  | none=>rfl
  | some R=>have:=h.top s R hx;omega) hk
 rw[List.range_eq_range'];simpa using this
theorem dH.mono {c:Code} (h:dH P n0 c st Q) (hq:∀e s,Q e s->Q' e s):dH P n0 c st Q':=fun K hn β S a w hs=>
 wp_mono (h K hn β S a w hs) fun e a' w' ⟨x,s,h1,h2,h3⟩=>⟨x,s,h1,hq _ _ h2,h3⟩
theorem dH.skip (h:Q .normal st):dH P n0 .skip st Q:=fun K hn β S a w hs=>wp_skip ⟨.normal,st,rfl,h,β,S,hs⟩
theorem dH.exit {id:Nat} (h:Q (.exit id) st):dH P n0 (.exit id) st Q:=fun K hn β S a w hs=>wp_exit ⟨.exit id,st,rfl,h,β,S,hs⟩
theorem dH.ret (h:Q .ret st):dH P n0 .ret st Q:=fun K hn β S a w hs=>wp_ret ⟨.ret,st,rfl,h,β,S,hs⟩
def Wf (P:Program) (n0:Nat) (y:Code) (Q:bf->St->Prop):bf->St->Prop
 | .normal,s=>dH P n0 y s Q
 | e,s=>Q e s
theorem dH.seq {x y:Code} (h:dH P n0 x st (Wf P n0 y Q)):dH P n0 (.seq x y) st Q:=fun K hn β S a w hs=>
 wp_seq (wp_mono (h K hn β S a w hs) fun e a' w' ⟨x,s,h1,h2,β',S',h3⟩=>by
  cases e with
  | normal=>cases h1;exact h2 K hn β' S' a' w' h3
  | exit id=>cases h1;exact⟨_,s,rfl,h2,β',S',h3⟩
  | ret=>cases h1;exact⟨_,s,rfl,h2,β',S',h3⟩
  | _=>cases h1)
theorem dH.cond {c:Operand} {x y:Code} {b:Bool} (hc:(st.get c).bool?=some b) (h:dH P n0 (if b then x else y) st Q):dH P n0 (.cond c x y) st Q:=fun K hn β S a w hs=>
 wp_cond ((hs.get c).bool hc) (h K hn β S a w hs)
def CR (id:Nat) (Q:bf->St->Prop):bf->St->Prop
 | .exit Ej,s=>if Ej=id then Q .normal s else Q (.exit Ej) s
 | e,s=>Q e s
theorem dH.block {id:Nat} {c:Code} (h:dH P n0 c st (CR id Q)):dH P n0 (.block id c) st Q:=fun K hn β S a w hs=>
 wp_block (wp_mono (h K hn β S a w hs) fun e a' w' ⟨x,s,h1,h2,h3⟩=>by
  cases e with
  | normal=>cases h1;exact⟨_,s,rfl,h2,h3⟩
  | exit Ej=>
   cases h1;unfold Exit.inBlock;unfold CR at h2;simp only at h2 ⊢;split
   ·rename_i Ki;rw[if_pos Ki]at h2;exact⟨_,s,rfl,h2,h3⟩
   ·rename_i Ki;rw[if_neg Ki]at h2;exact⟨_,s,rfl,h2,h3⟩
  | ret=>cases h1;exact⟨_,s,rfl,h2,h3⟩
  | _=>cases h1)
def Rm (I:Nat->St->Prop) (n:Nat) (Q:bf->St->Prop):bf->St->Prop
 | .normal,s=>∃m,m<n/\I m s
 | e,s=>Q e s
theorem dH.loop {c:Code} (I:Nat->St->Prop) (round:∀n s,I n s->dH P n0 c s (Rm I n Q)) {n:Nat} (h0:I n st):dH P n0 (.loop c) st Q:=by
 intro K hn β S a w hs b k cs;have key:∀n s β S a w,I n s->Sat K β S s a w ->
   ∃e a' w',MI K Q e a' w'/\Arrives P (lone (b.at a (.code c :: .inLoop c::k)) cs w) b k cs e a' w':=by
  intro n
  induction n using Nat.strongRecOn with
  | _ n ih=>
   intro s β S a w hI hs;obtain⟨e,a₁,w₁,⟨x,s1,h1,h2,β1,S1,h3⟩,CQ⟩:=round n s hI K hn β S a w hs b (.inLoop c::k) cs;cases e with
   | normal=>
    cases h1;obtain⟨m,hm,hI1⟩:=h2;obtain⟨e₂,a₂,w₂,hq₂,Wg⟩:=ih m hm s1 β1 S1 a₁ w₁ hI1 h3;exact⟨e₂,a₂,w₂,hq₂,.of_steps (Steps.trans CQ (.one step_inLoop)) Wg⟩
   | exit id=>cases h1;exact⟨_,a₁,w₁,⟨_,s1,rfl,h2,β1,S1,h3⟩,.pass (x:=.inLoop c) rfl (fun _ _=>.inl (by simp)) CQ⟩
   | ret=>cases h1;exact⟨_,a₁,w₁,⟨_,s1,rfl,h2,β1,S1,h3⟩,.pass (x:=.inLoop c) rfl (fun _ _=>.inl (by simp)) CQ⟩
   | _=>cases h1
 obtain⟨e,a',w',hq,CQ⟩:=key n st β S a w h0 hs;exact⟨e,a',w',hq,.of_steps (.one step_loop) CQ⟩
structure St.Le (s s':St):Prop where
 len:s'.tmps.length=s.tmps.length
 hlen:s'.heap.length<=s.heap.length
 tmps:∀(i:Nat) (x:AV),s'.tmps[i]?=some x->x=.af∨s.tmps[i]?=some x
 heap:∀b au,look s'.heap b=some au->look s.heap b=some au
def Cell.aM (n:Nat):Cell->Bool
 | .t _=>true
 | .ptr b _ _=>decide (b<n)
 | .tp _ _=>true
 | .sl b _ _ _=>decide (b<n)
 | .mp b=>decide (b<n)
 | .dy _ aK=>aK.all fun p=>decide (p.1<n)
mutual
def AV.aM (n:Nat):AV->Bool
 | .c x=>x.aM n
 | .agg l=>l.all (·.aM n)
 | .pD l=>vF n l
 | .af=>true
def vF (n:Nat):List AV->Bool
 | []=>true
 | x::l=>x.aM n&&vF n l
end
def aC.aM (n:Nat):aC->Bool
 | .var cells=>cells.all (·.aM n)
 | _=>true
def St.aM (s:St):Bool:=s.tmps.all (·.aM s.heap.length)&&s.heap.all fun o=>match o with|some b=>b.aM s.heap.length|none=>true
theorem dq.cut {n:Nat} {c:Cell} {v:Value} (h:dq β S w c v) (hb:c.aM n=true):dq (fun b=>if b<n then β b else none) S w c v:=by
 cases h with
 | t h=>exact .t h
 | ptr R h=>exact .ptr R (by simp only[Cell.aM,decide_eq_true_eq]at hb;rw[if_pos hb];exact h)
 | tp cb co val h=>exact .tp cb co val h
 | sl R base cap h h1 h2 h3 h4 h5=>exact .sl R base cap (by simp only[Cell.aM,decide_eq_true_eq]at hb;rw[if_pos hb];exact h) h1 h2 h3 h4 h5
 | mp R h=>exact .mp R (by simp only[Cell.aM,decide_eq_true_eq]at hb;rw[if_pos hb];exact h)
 | dy vs h1 h2=>
  refine .dy vs h1 fun i b r c hi=>?_
  obtain⟨R,e1,e2⟩:=h2 i b r c hi;have:=List.all_eq_true.1 hb _ (List.mem_of_getElem? hi);exact⟨R,by rw[if_pos (by simpa using this)];exact e1,e2⟩
theorem uF {n:Nat}:∀ {l:List AV},vF n l=true->∀(i:Nat) (x:AV),l[i]?=some x->x.aM n=true
 | [],_,i,x,hi=>by simp at hi
 | y::l,h,i,x,hi=>by
  simp only[vF,Bool.and_eq_true]at h;cases i with
  | zero=>simp at hi;subst hi;exact h.1
  | succ i=>exact uF h.2 i x (by simpa using hi)
theorem aH.cut {n:Nat} {x:AV} {v:Value} (h:aH β S w x v):x.aM n=true->aH (fun b=>if b<n then β b else none) S w x v:=by
 induction h with
 | c h=>intro hb;exact .c (h.cut (by simpa[AV.aM]using hb))
 | agg vs h1 h2=>
  intro hb;refine .agg vs h1 fun i c hi=>?_
  obtain⟨v,e1,e2⟩:=h2 i c hi;simp only[AV.aM]at hb;exact⟨v,e1,e2.cut (List.all_eq_true.1 hb c (List.mem_of_getElem? hi))⟩
 | pD vs val h1 h2 _ ih=>
  intro hb;simp only[AV.aM]at hb;exact .pD vs val h1 h2 fun i x hi=>ih i x hi (uF hb i x hi)
 | af v=>intro _;exact .af v
theorem Sat.weaken {s s':St} (h:Sat K β S s a w) (hl:s.Le s') (hb:s'.aM=true) (hn:∀i R,K.β0 i=some R->i<s'.heap.length):Sat K (fun b=>if b<s'.heap.length then β b else none) S s' a w:=by
 simp only[St.aM,Bool.and_eq_true]at hb;refine⟨by rw[hl.len];exact h.len,h.defers,fun t x ht=>?_,fun b R hR=>?_,fun b au gT=>?_,fun b b' au db R R' cY h1 h2 hR gW=>?_,h.sN,h.sin,h.sub,h.jF,fun i R hi=>by rw[if_pos (hn i R hi)];exact h.arg i R hi⟩
 ·rcases hl.tmps t x ht with rfl|hx
  ·exact .af _
  ·exact(h.tmps t x hx).cut (List.all_eq_true.1 hb.1 x (List.mem_of_getElem? ht))
 ·split at hR
  ·assumption
  ·cases hR
 ·obtain⟨R,e1,e2,e3,e4⟩:=h.au b au (hl.heap b au gT)
  have bG:=sW gT;refine⟨R,by rw[if_pos bG];exact e1,?_,e3,e4⟩;cases au with
  | var cells=>
   refine⟨e2.1,fun j c hj=>?_⟩;obtain⟨v,f1,f2⟩:=e2.2 j c hj;have hm:some (aC.var cells)∈s'.heap:=by
    unfold look at gT;cases hx:s'.heap[b]? with
    | none=>rw[hx]at gT;cases gT
    | some y=>rw[hx]at gT;simp at gT;subst gT;exact List.mem_of_getElem? hx
   have:=List.all_eq_true.1 hb.2 _ hm;simp only[aC.aM]at this;exact⟨v,f1,f2.cut (List.all_eq_true.1 this c (List.mem_of_getElem? hj))⟩
  | rows sz rows g fz=>exact e2
  | map cR=>exact e2
  | gB sz rows=>exact e2
 ·have l1:=sW h1
  have l2:=sW h2;rw[if_pos l1]at hR;rw[if_pos l2]at gW;exact h.mz b b' au db R R' cY (hl.heap _ _ h1) (hl.heap _ _ h2) hR gW
theorem dH.weaken {c:Code} {s s':St} (hl:s.Le s') (hb:s'.aM=true) (hk:n0<=s'.heap.length) (h:dH P n0 c s' Q):dH P n0 c s Q:=fun K hn β S a w hs=>h K hn _ S a w (hs.weaken hl hb fun i R hi=>Nat.lt_of_lt_of_le (hn i R hi) hk)
end
def dA:Nat->List Arg->List AV
 | _,[]=>[]
 | i,.val x::as=>x.av::dA (i+1) as
 | i,.fj _ rows::as=>.c (.sl i 0 rows.length false)::dA (i+1) as
 | i,.own _ rows::as=>.c (.sl i 0 rows.length false)::dA (i+1) as
 | i,.ref _::as=>.c (.ptr i 0 0)::dA (i+1) as
 | i,.dy f aK::as=>.c (.dy f aK)::dA (i+1) as
 | _,.gh _::_=>[]
def fQ (args:List Arg) (ntmps:Nat):St:=⟨dA 0 args++List.replicate (ntmps-kE args) .af,args.map Arg.au⟩
def gn (C:eh) (st:St):ResultVar->Option AV
 | .tmp t=>some (st.tmps.getD t .af)
 | .cell a t=>match C.ty t,st.tmps.getD a .af with
  | some ti,.c (.ptr b 0 c)=>match look st.heap b with
   | some (.var cells)=>dk ti cells c
   | _=>none
  | _,_=>none
def Arg.rc:Arg->Option RC
 | .val x=>some (.val x)
 | .own sz rows=>some (.own sz rows)
 | _=>none
def oZ (h:Hp) (i:Nat):Arg->Option (Option aC)
 | .fj sz rows=>match h i with
  | some (.rows kX r false false)=>if kX=sz/\r.length=rows.length then some (some (.rows sz r false false)) else none
  | _=>none
 | .ref cells=>match h i with
  | some (.var cs)=>match bL h cs with
   | some (_,[])=>if cs.length=cells.length then some (some (.var cs)) else none
   | _=>none
  | _=>none
 | .gh cells=>match h i with
  | some (.var cs)=>match bL h cs with
   | some (_,[])=>if cs.length=cells.length then some (some (.var cs)) else none
   | _=>none
  | _=>none
 | _=>some none
def pU (h:Hp):Nat->List Arg->Option (List (Option aC))
 | _,[]=>some []
 | i,a::as=>match oZ h i a,pU h (i+1) as with
  | some o,some os=>some (o::os)
  | _,_=>none
def Arg.Kk:Arg->Bool
 | .fj _ _=>true
 | .ref _=>true
 | .gh _=>true
 | _=>false
def rj (heap:bM) (bI:List AV) (args:List Arg) (om:List Mode):Option mB:=
 match ch (look heap) om bI with
 | none=>none
 | some (as,marks,dQ)=>
  let is:=dQ.filterMap bH.id
  if decide is.Nodup&&is.all (fun i=>!(ids marks).contains i)&&is.all (fun i=>match args[i]? with|some a=>!a.Kk|none=>true) then
   match as.mapM Arg.rc,pU (look (eK heap marks)) 0 args with
   | some Kl,some outs=>some ⟨Kl,outs⟩
   | _,_=>none
  else none
def finish (C:eh) (st:St) (args:List Arg) (LU:List ResultVar) (om:List Mode):Option mB:=
 match LU.mapM (gn C st) with
 | none=>none
 | some bI=>rj st.heap bI args om
section
variable {P:Program} {C:eh} {K:Ctx} {β:Nat->Option bR} {S:Place} {st:St} {a:Act} {w:World} {f:FuncId}
def aa4 (i:Nat):Arg->AV
 | .val x=>x.av
 | .fj _ rows=>.c (.sl i 0 rows.length false)
 | .own _ rows=>.c (.sl i 0 rows.length false)
 | .ref _=>.c (.ptr i 0 0)
 | .dy f aK=>.c (.dy f aK)
 | .gh _=>.af
theorem ia:∀(args:List Arg) (i0 i:Nat) (x:AV),(dA i0 args)[i]?=some x->i<kE args/\∃y,args[i]?=some y/\(∀ts,y ≠ .gh ts)/\x=aa4 (i0+i) y
 | [],_,_,_,h=>by simp[dA]at h
 | .gh ts::as,i0,i,x,h=>by simp[dA]at h
 | .val y::as,i0,0,x,h=>by simp[dA]at h;exact⟨by simp[kE],_,rfl,by simp,h.symm⟩
 | .fj s r::as,i0,0,x,h=>by simp[dA]at h;exact⟨by simp[kE],_,rfl,by simp,h.symm⟩
 | .own s r::as,i0,0,x,h=>by simp[dA]at h;exact⟨by simp[kE],_,rfl,by simp,h.symm⟩
 | .ref r::as,i0,0,x,h=>by simp[dA]at h;exact⟨by simp[kE],_,rfl,by simp,h.symm⟩
 | .dy f r::as,i0,0,x,h=>by simp[dA]at h;exact⟨by simp[kE],_,rfl,by simp,h.symm⟩
 | .val y::as,i0,i+1,x,h=>by
  obtain⟨h1,z,h2,h3,h4⟩:=ia as (i0+1) i x (by simpa[dA]using h);exact⟨by simp[kE];omega,z,by simpa using h2,h3,by rw[h4,show i0+1+i=i0+(i+1) by omega]⟩
 | .fj s r::as,i0,i+1,x,h=>by
  obtain⟨h1,z,h2,h3,h4⟩:=ia as (i0+1) i x (by simpa[dA]using h);exact⟨by simp[kE];omega,z,by simpa using h2,h3,by rw[h4,show i0+1+i=i0+(i+1) by omega]⟩
 | .own s r::as,i0,i+1,x,h=>by
  obtain⟨h1,z,h2,h3,h4⟩:=ia as (i0+1) i x (by simpa[dA]using h);exact⟨by simp[kE];omega,z,by simpa using h2,h3,by rw[h4,show i0+1+i=i0+(i+1) by omega]⟩
 | .ref r::as,i0,i+1,x,h=>by
  obtain⟨h1,z,h2,h3,h4⟩:=ia as (i0+1) i x (by simpa[dA]using h);exact⟨by simp[kE];omega,z,by simpa using h2,h3,by rw[h4,show i0+1+i=i0+(i+1) by omega]⟩
 | .dy f r::as,i0,i+1,x,h=>by
  obtain⟨h1,z,h2,h3,h4⟩:=ia as (i0+1) i x (by simpa[dA]using h);exact⟨by simp[kE];omega,z,by simpa using h2,h3,by rw[h4,show i0+1+i=i0+(i+1) by omega]⟩
theorem pb:∀(args:List Arg) (i0:Nat),(dA i0 args).length=kE args
 | [],_=>rfl
 | x::as,i0=>by cases x<;>simp[dA,kE,pb as]
theorem MJ:∀(args:List Arg),kE args<=args.length
 | []=>Nat.le_refl _
 | x::as=>by have:=MJ as;cases x<;>simp[kE]<;>omega
theorem MK (args:List Arg) (b:Nat):look (args.map Arg.au) b=(args[b]?).bind Arg.au:=by
 unfold look;rw[List.getElem?_map];cases args[b]? <;> rfl
theorem AF {args:List Arg} {aT:List Value} {Rs:Nat->bR} (hp:oj args S w aT Rs) (n:Nat) :
  Sat ⟨w,m8 args Rs,S,βA args Rs⟩ (βA args Rs) S (fQ args n)
   { tmps:=(aT.take (kE args)).toArray++Array.replicate (n-(aT.take (kE args)).length) undef,defers:=[] } w:=by
 have UJ:=MJ args;have Mq:(aT.take (kE args)).length=kE args:=by rw[List.length_take,hp.len];omega
 have pP:∀b au,look (args.map Arg.au) b=some au->∃x,args[b]?=some x/\x.au=some au:=by
  intro b au hb;rw[MK]at hb;obtain⟨x,h1,h2⟩:=Option.bind_eq_some_iff.1 hb;exact⟨x,h1,h2⟩
 have hβ:∀b x au,args[b]?=some x->x.au=some au->βA args Rs b=some (Rs b):=by
  intro b x au h1 h2;unfold βA;rw[if_pos];rw[h1];simp[h2]
 refine⟨by simp[fQ,pb,Mq],rfl,fun t x ht=>?_,fun b R hb=>?_,fun b au hb=>?_,fun b b' au db R R' cY hb bK hR gW c o hx hy=>?_,hp.sN,fun c o hs=>.inl hs,fun c o hs=>hs,fh.refl _ _,fun i R hi=>hi⟩
 ·simp only[fQ]at ht
  rw[List.getElem?_append]at ht;split at ht
  ·rename_i bG
   obtain⟨h0,y,h1,hng,h2⟩:=ia _ _ _ _ ht;obtain⟨v,h3,h4⟩:=hp.ok t y h1;have hv:((aT.take (kE args)).toArray++Array.replicate (n-(aT.take (kE args)).length) undef).getD t undef=v:=by
    rw[Array.getD_eq_getD_getElem?,Array.getElem?_append,if_pos (by rw[List.size_toArray,Mq];exact h0)];simp[h3,h0]
   simp only;rw[hv];cases y with
   | val y=>subst h2;exact aH.mono h4 (fun _ _ hx=>by cases hx) (fun _ _ hx=>hx) fun _ _ _=>rfl
   | fj sz rows=>
    subst h2;obtain⟨⟨base,q1,q2⟩,_,_,q3,_⟩:=h4;rw[q1];exact .c (.sl (Rs t) base _ (by rw[Nat.zero_add];exact hβ t _ _ h1 rfl) (fun hh=>by cases hh) (fun _=>by omega) q3 (by omega) (fun h0=>by simpa using q2 h0))
   | own sz rows=>
    subst h2;obtain⟨⟨base,q1,q2⟩,_,_,q3,_⟩:=h4;rw[q1];exact .c (.sl (Rs t) base _ (by rw[Nat.zero_add];exact hβ t _ _ h1 rfl) (fun hh=>by cases hh) (fun _=>by omega) q3 (by omega) (fun h0=>by simpa using q2 h0))
   | ref cells=>
    subst h2;rw[h4.1];have:=dq.ptr (S:=S) (w:=w) (β:=βA args Rs) (b:=0+t) (r:=0) (c:=0) (Rs t) (by rw[Nat.zero_add];exact hβ t _ _ h1 rfl);exact .c (by simpa using this)
   | dy f aK=>subst h2;exact .c (hp.dy t f aK v h1 h3)
   | gh ts=>exact absurd rfl (hng ts)
  ·rw[List.getElem?_replicate]at ht
   split at ht
   ·cases ht;exact .af _
   ·cases ht
 ·unfold βA at hb
  split at hb
  ·rename_i hs
   obtain⟨y,hy⟩:=Option.isSome_iff_exists.1 hs;obtain⟨x,h1,_⟩:=Option.bind_eq_some_iff.1 hy;simpa[fQ]using uo h1
  ·cases hb
 ·obtain⟨x,h1,h2⟩:=pP b au hb
  obtain⟨v,h3,h4⟩:=hp.ok b x h1;obtain⟨h5,h6⟩:=hp.ext b x au h1 h2;refine⟨Rs b,hβ b x au h1 h2,?_,fun c o hx=>⟨h5 c o hx,.inr ⟨b,x,au,h1,h2,hx⟩⟩,h6⟩;cases x with
  | val=>cases h2
  | fj sz rows=>cases h2;exact h4.2
  | own sz rows=>cases h2;exact h4.2
  | ref cells=>cases h2;exact h4.2.vE
  | dy=>cases h2
  | gh cells=>cases h2;exact h4.2.vE
 ·obtain⟨x,h1,h2⟩:=pP b au hb
  obtain⟨x',Q5,I4⟩:=pP b' db bK;rw[hβ b x au h1 h2]at hR;cases hR;rw[hβ b' x' db Q5 I4]at gW;cases gW;exact hp.mz b b' x x' au db cY h1 Q5 h2 I4 c o hx hy
def CS (tmps:Array Value):ResultVar->Sem Value
 | .tmp t=>pure (tmps.getD t undef)
 | .cell a t=>do loadVar t (<-asAddr (tmps.getD a undef))
theorem Hx (fn:Func) (tmps:Array Value):results fn tmps=(do
  let vs <-fn.results.mapM (CS tmps)
  pure (if h:vs.size=1 then vs[0] else .tuple vs)):=by
 unfold results;congr 2
theorem Km (hC:bq P C) (h:Sat K β S st a w) {r:ResultVar} {x:AV} (hr:gn C st r=some x) :
  ∃v,(CS a.tmps r).run P w=.ok v w/\aH β S w x v:=by
 have fX:∀t,aH β S w (st.tmps.getD t .af) (a.tmps.getD t undef):=fun t=>h.get (.tmp t)
 cases r with
 | tmp t=>
  simp only[gn]at hr;cases hr;exact⟨_,rfl,fX t⟩
 | cell p t=>
  simp only[gn]at hr;split at hr
  ·rename_i ti b c bZ hp
   split at hr
   ·rename_i cells hb
    have hv:=fX p;rw[hp]at hv;cases hv with|c hv=>
    generalize YI:a.tmps.getD p undef=pv at hv;cases hv with|ptr R hR=>
    obtain⟨R',e1,e2,_⟩:=h.au b _ hb;rw[hR]at e1;cases e1;obtain⟨u,h3,h4⟩:=qR (P:=P) (iV (hC t ti bZ)) hr e2.2;refine⟨u,?_,h4⟩;simp only[CS,YI,asAddr,Sem.run_bind,Sem.run_pure,Result.andThen];rw[show R.co+0*R.ai+c=R.co+c by omega,h3]
   ·cases hr
  ·cases hr
theorem jO (hC:bq P C) (h:Sat K β S st a w) {fn:Func} {bI:List AV} (hr:fn.results.toList.mapM (gn C st)=some bI) :
  ∃vs:List Value,(results fn a.tmps).run P w=.ok (if vs.length=1 then vs.getD 0 undef else .tuple vs.toArray) w/\vs.length=bI.length/\∀(i:Nat) (x:AV),bI[i]?=some x->∃v,vs[i]?=some v/\aH β S w x v:=by
 have gen:∀(l:List ResultVar) (bI:List AV),l.mapM (gn C st)=some bI->∃vs:List Value,(l.mapM (CS a.tmps)).run P w=.ok vs w/\vs.length=bI.length/\∀(i:Nat) (x:AV),bI[i]?=some x->∃v,vs[i]?=some v/\aH β S w x v:=by
  intro l
  induction l with
  | nil=>intro bI hl;simp at hl;subst hl;exact⟨[],by simp,rfl,by simp⟩
  | cons r l ih=>
   intro bI hl;rw[List.mapM_cons]at hl;cases h1:gn C st r with
   | none=>rw[h1]at hl;cases hl
   | some x=>
    cases h2:l.mapM (gn C st) with
    | none=>rw[h1,h2]at hl;cases hl
    | some xs=>
     rw[h1,h2]at hl;cases hl;obtain⟨v,e1,e2⟩:=Km (P:=P) hC h h1;obtain⟨vs,f1,f2,f3⟩:=ih xs h2;refine⟨v::vs,?_,by simp[f2],fun i y hi=>?_⟩
     ·simp only[List.mapM_cons,Sem.run_bind,e1,Result.andThen,f1,Sem.run_pure]
     ·cases i with
      | zero=>simp at hi;subst hi;exact⟨v,rfl,e2⟩
      | succ i=>simpa using f3 i y (by simpa using hi)
 obtain⟨vs,f1,f2,f3⟩:=gen _ bI hr;refine⟨vs,?_,f2,f3⟩;have CQ:fn.results=fn.results.toList.toArray:=by simp
 rw[Hx,CQ,List.mapM_toArray];simp only[Sem.run_bind,Sem.run_map,f1,Result.andThen,Sem.run_pure];congr 1
 by_cases h1:vs.length=1
 ·obtain⟨v,rfl⟩:∃v,vs=[v]:=by
   match vs,h1 with
   | [v],_=>exact⟨v,rfl⟩
  simp
 ·simp[h1]
theorem Jc:∀ {as:List Arg} {Kl:List RC},as.mapM Arg.rc=some Kl->Kl.length=as.length/\∀(k:Nat) (r:RC),Kl[k]?=some r->∃x:Arg,as[k]?=some x/\x.rc=some r:=fun h=>mapM_some h
theorem wR {h:Hp}:∀ {args:List Arg} {i0:Nat} {outs:List (Option aC)},pU h i0 args=some outs->∀(i:Nat) (o:Option aC),outs[i]?=some o->∃x,args[i]?=some x/\oZ h (i0+i) x=some o
 | [],_,outs,ho,i,o,hi=>by simp[pU]at ho;subst ho;simp at hi
 | x::as,i0,outs,ho,i,o,hi=>by
  unfold pU at ho;split at ho
  ·rename_i o1 os h1 h2
   cases ho;cases i with
   | zero=>simp at hi;subst hi;exact⟨x,rfl,h1⟩
   | succ i=>
    obtain⟨y,e1,e2⟩:=wR h2 i o (by simpa using hi);exact⟨y,by simpa using e1,by rw[show i0+(i+1)=i0+1+i by omega];exact e2⟩
  ·cases ho
theorem Jd {args:List Arg} {Rs:Nat->bR} {r0:mB} {S S1:Place} {w w':World} {β':Nat->Option bR} {a':Act} {tm:List AV} {heap:bM} {om:List Mode} {bI:List AV} {vs:List Value} (hs:Sat ⟨w,m8 args Rs,S,βA args Rs⟩ β' S1 ⟨tm,heap⟩ a' w')
  (r2:vs.length=bI.length) (r3:∀(i:Nat) (x:AV),bI[i]?=some x->∃v,vs[i]?=some v/\aH β' S1 w' x v) (fY:rj heap bI args om=some r0):fK args r0 S w Rs (if vs.length=1 then vs.getD 0 undef else .tuple vs.toArray) w':=by
 unfold rj at fY;split at fY
 ·cases fY
 ·rename_i as marks dQ Wh
  simp only at fY;split at fY
  ·rename_i Cv
   simp only[Bool.and_eq_true]at Cv;obtain⟨⟨hc1,Kj⟩,hc3⟩:=Cv;have oO:(dQ.filterMap bH.id).Nodup:=by simpa using hc1
   have Ei:∀i∈dQ.filterMap bH.id,i ∉ ids marks:=fun i hi=>by
    have:=List.all_eq_true.1 Kj i hi;simpa using this
   have fD:∀i∈dQ.filterMap bH.id,∀y,args[i]?=some y->y.Kk=false:=fun i hi y hy=>by
    have:=List.all_eq_true.1 hc3 i hi;rw[hy]at this;simpa using this
   split at fY
   ·rename_i Kl outs Wi Wj
    cases fY;obtain⟨S2,Rc,h2,J7,kv,ee,Rr,kF⟩:=lx (fun b au hb=>by obtain⟨R,hR,_⟩:=hs.au b au hb;exact⟨R,hR⟩) om bI vs heap S1 as marks dQ hs (eF.refl _) r2 r3 Wh;have jv:∀(i:Nat) (x:Arg),as[i]?=some x->∃b v,dQ[i]?=some b/\vs[i]?=some v/\ju β' (eK heap marks) S2 w' x b (Rr i) v:=by
     intro i x hi;obtain⟨b,v,e1,e2,e3⟩:=kF i x hi;exact⟨b,v,e1,e2,e3.heap fun bi hb=>LR marks heap (Ei bi (List.mem_filterMap.2 ⟨b,List.mem_of_getElem? e1,hb⟩))⟩
    have SV:∀(i:Nat) (f:FuncId) (aK:List (Nat×Nat×Nat)),as[i]? ≠ some (.dy f aK):=by
     intro i f aK hi;have bG:=uo hi;obtain⟨yx,SS⟩:=Jc Wi;obtain⟨r,hr⟩:∃r,Kl[i]?=some r:=⟨_,List.getElem?_eq_getElem (by omega)⟩;obtain⟨x,e1,e2⟩:=SS i r hr;rw[hi]at e1;cases e1;cases e2
    have nf:=pQ h2 (by omega) oO jv fun i f aK v hi _=>absurd hi (SV i f aK)
    obtain⟨yx,SS⟩:=Jc Wi;have CT:∀(k sz:Nat) (rows:List (List Tree)),Kl[k]?=some (.own sz rows)->as[k]?=some (.own sz rows):=by
     intro k sz rows hk;obtain⟨x,e1,e2⟩:=SS k _ hk;cases x with
     | own kX dv=>cases e2;exact e1
     | val=>cases e2
     | fj=>cases e2
     | ref=>cases e2
     | dy=>cases e2
     | gh=>cases e2
    have EY:fK args ⟨Kl,outs⟩ S w Rs (if vs.length=1 then vs.getD 0 undef else .tuple vs.toArray) w':=by
     refine⟨S2,Rr,vs,by simp;omega,rfl,h2.jF,h2.sub,fun c o sR=>?_,fun k r hk=>?_,fun k sz rows hk=>?_,fun k l sz kX rows dv cY hk hl'=>?_,fun i au hi=>?_⟩
     ·rcases h2.sin c o sR with h|h
      ·exact .inl h
      ·exact .inr ⟨h2.sN c o sR,h⟩
     ·obtain⟨x,e1,e2⟩:=SS k r hk
      obtain⟨v,e3,e4⟩:=nf.ok k x e1;refine⟨v,e3,?_⟩;cases x with
      | val x=>cases e2;exact e4
      | own sz rows=>cases e2;exact e4
      | fj=>cases e2
      | ref=>cases e2
      | dy=>cases e2
      | gh=>cases e2
     ·have h1:=CT k sz rows hk
      obtain⟨b,v,_,_,e3⟩:=jv k _ h1;rcases(e3.uz h2).2 _ rfl with⟨bi,B,RB,g1,g2,g3,g4,g5⟩|⟨_,g⟩
      ·obtain⟨R',k1,_,k3,k4⟩:=h2.au bi B g2
       rw[g3]at k1;cases k1;exact⟨fun c o hx=>k3 c o (g4 c o hx),fun c o hx=>k4 c o (g5 c o hx)⟩
      ·exact⟨fun c o hx=>absurd hx (g c o),fun c o hx=>absurd (aC.fG hx) (g c o)⟩
     ·exact nf.mz k l _ _ _ _ cY (CT k sz rows hk) (CT l kX dv hl') rfl rfl
     ·obtain⟨x,e1,e2⟩:=wR Wj i _ hi
      rw[Nat.zero_add]at e2;have SW:∀b0,x.au=some b0->β' i=some (Rs i):=fun b0 Ex=>h2.arg i (Rs i) (by
       simp only[Abs.βA];rw[if_pos];rw[e1];simp[Ex])
      have CU:∀(k sz:Nat) (rows:List (List Tree)) (B:aC),x.Kk=true->look (eK heap marks) i=some B->β' i=some (Rs i)->Kl[k]?=some (.own sz rows)->∀c o,B.ext (Rs i) c o->¬(aC.rows sz rows true false).ext (Rr k) c o:=by
       intro k sz rows B rb hB hR hk c o hx hy;obtain⟨b,v,f1,_,f3⟩:=jv k _ (CT k sz rows hk);rcases(f3.uz h2).2 _ rfl with⟨bi,B',RB,g1,g2,g3,g4,_⟩|⟨_,g⟩
       ·have cY:i≠bi:=by
         rintro rfl
         have:=fD i (List.mem_filterMap.2 ⟨b,List.mem_of_getElem? f1,g1⟩) x e1;rw[rb]at this;cases this
        exact h2.mz i bi B B' (Rs i) RB cY hB g2 hR g3 c o hx (g4 c o hy)
       ·exact g c o hy
      cases x with
      | val=>simp[oZ]at e2
      | own=>simp[oZ]at e2
      | fj sz rows=>
       simp only[oZ]at e2;split at e2
       ·rename_i kX r hb
        split at e2
        ·rename_i hc
         obtain⟨rfl,yx⟩:=hc;cases e2;have hR:=SW _ rfl;obtain⟨R',k1,k2,k3,k4⟩:=h2.au i _ hb;rw[hR]at k1;cases k1;refine⟨_,_,e1,rfl,fun c o hx=>?_,k2,k4,fun k My ng hk=>CU k My ng _ rfl hb hR hk⟩;rw[aC.ext,yx]at hx;exact hx
        ·cases e2
       ·cases e2
      | ref cells=>
       simp only[oZ]at e2;split at e2
       ·rename_i cs hb
        split at e2
        ·rename_i ts uv
         split at e2
         ·rename_i GY
          cases e2;have Au:=VS uv rfl;subst Au;have hR:=SW _ rfl;obtain⟨R',k1,k2,k3,k4⟩:=h2.au i _ hb;rw[hR]at k1;cases k1;refine⟨_,_,e1,rfl,fun c o hx=>?_,⟨k2.1,fun j c hj=>?_⟩,k4,fun k My ng hk=>CU k My ng _ rfl hb hR hk⟩
          ·rw[aC.ext,GY]at hx;simpa[aC.ext]using hx
          ·obtain⟨v,q1,q2⟩:=k2.2 j c hj
           obtain⟨t,_,rfl⟩:=qT hj;refine⟨v,q1,?_⟩;cases q2 with|t q2=>exact .t q2
         ·cases e2
        ·cases e2
       ·cases e2
      | dy=>simp[oZ]at e2
      | gh cells=>
       simp only[oZ]at e2;split at e2
       ·rename_i cs hb
        split at e2
        ·rename_i ts uv
         split at e2
         ·rename_i GY
          cases e2;have Au:=VS uv rfl;subst Au;have hR:=SW _ rfl;obtain⟨R',k1,k2,k3,k4⟩:=h2.au i _ hb;rw[hR]at k1;cases k1;refine⟨_,_,e1,rfl,fun c o hx=>?_,⟨k2.1,fun j c hj=>?_⟩,k4,fun k My ng hk=>CU k My ng _ rfl hb hR hk⟩
          ·rw[aC.ext,GY]at hx;simpa[aC.ext]using hx
          ·obtain⟨v,q1,q2⟩:=k2.2 j c hj
           obtain⟨t,_,rfl⟩:=qT hj;refine⟨v,q1,?_⟩;cases q2 with|t q2=>exact .t q2
         ·cases e2
        ·cases e2
       ·cases e2
    exact EY
   ·cases fY
  ·cases fY
theorem pc (hC:bq P C) {fn:Func} {c:Code} {args:List Arg} {R:mB->Prop} {om:List Mode} (jm:P.funcs[f]?=some fn) (dB:fn.body=some c)
  (cZ:dH P args.length c (fQ args fn.ntmps) fun e s=>(e=.normal∨e=.ret)/\∃r,R r/\finish C s args fn.results.toList om=some r)
  (S:Place) (w:World) (aT:List Value) (Rs:Nat->bR) (hp:oj args S w aT Rs):Calls P f (aT.take (kE args)).toArray w fun e w'=>∃v r,e=.returned v/\R r/\fK args r S w Rs v w':=by
 refine calls_of_wp jm dB ?_;have kC:=AF hp fn.ntmps;have dS:(aT.take (kE args)).toArray.size=(aT.take (kE args)).length:=by simp
 rw[dS];refine wp_mono (cZ _ (fun i R hi=>?_) _ S _ w kC) fun e a' w' ⟨x,s,hx,⟨SX,r0,Pe,fY⟩,β',S1,hs⟩=>?_
 ·simp only[βA]at hi
  split at hi
  ·rename_i h1
   obtain⟨y,hy⟩:=Option.isSome_iff_exists.1 h1;obtain⟨z,h2,_⟩:=Option.bind_eq_some_iff.1 hy;exact uo h2
  ·cases hi
 unfold finish at fY;split at fY
 ·cases fY
 ·rename_i bI Hy
  obtain⟨vs,r1,r2,r3⟩:=jO (P:=P) hC hs Hy;have EY:=Jd hs r2 r3 fY;have eL:∃v,(results fn a'.tmps).run P w'=.ok v w'/\∃u r,Ending.returned v=.returned u/\R r/\fK args r S w Rs u w':=⟨_,r1,_,_,rfl,Pe,EY⟩;cases e with
  | normal=>exact⟨hs.defers,eL⟩
  | ret=>exact⟨hs.defers,eL⟩
  | exit id=>cases hx;rcases SX with h|h<;>cases h
  | goto=>cases hx
  | panic=>cases hx
  | outgrown=>cases hx
theorem ah.rk (hC:bq P C) {fn:Func} {c:Code} {args:List Arg} {res:mB} {om:List Mode} (jm:P.funcs[f]?=some fn) (fb:(fn.name == "runtime.NumGoroutine")=false) (dB:fn.body=some c)
  (cZ:dH P args.length c (fQ args fn.ntmps) fun e s=>(e=.normal∨e=.ret)/\finish C s args fn.results.toList om=some res):ah P f args res:=by
 refine⟨⟨fn,jm,by rw[dB];rfl,fb⟩,fun S w aT Rs hp=>(pc hC (R:=(·=res)) (om:=om) jm dB (fun K hn β S a w hs=>wp_mono (cZ K hn β S a w hs) fun e a' w' ⟨x,s,h1,h2,h3⟩=>⟨x,s,h1,⟨h2.1,res,rfl,h2.2⟩,h3⟩) S w aT Rs hp).mono ?_⟩
 rintro e w' ⟨v,r,h1,rfl,h2⟩
 exact⟨v,h1,h2⟩
end
theorem pV (a b:List (Nat×Option aC)):ids (a++b)=ids a++ids b:=by simp[ids]
theorem rn {h h':Hp} {c:Cell} {t:Tree} {m:List (Nat×Option aC)} (ht:toTree h c=some (t,m)) (hh:∀b∈ids m,h' b=h b):toTree h' c=some (t,m):=by
 cases c with
 | t x=>exact ht
 | sl b off len cp=>
  have hb:h' b=h b:=by
   apply hh;unfold toTree at ht;simp only at ht;split at ht
   ·split at ht
    ·cases ht;simp[ids]
    ·cases ht
   ·cases ht
  unfold toTree at ht ⊢;simp only at ht ⊢;rw[hb];exact ht
 | _=>simp[toTree]at ht
theorem SY {h h':Hp}:∀ {cs:List Cell} {ts:List Tree} {m:List (Nat×Option aC)},bL h cs=some (ts,m)->(∀b∈ids m,h' b=h b)->bL h' cs=some (ts,m)
 | [],ts,m,ht,_=>ht
 | c::cs,ts,m,ht,hh=>by
  unfold bL at ht;split at ht
  ·rename_i t1 m1 h1
   split at ht
   ·rename_i ts2 m2 h2
    cases ht;rw[pV]at hh;have e1:=rn (h':=h') h1 fun b hb=>hh b (List.mem_append_left _ hb)
    have e2:=SY (h':=h') h2 fun b hb=>hh b (List.mem_append_right _ hb)
    try simp only[bL,e1,e2]
   ·cases ht
  ·cases ht
theorem gJ {h h':Hp} {x:AV} {r:List (List Tree)} {rd:List Nat} (hr:rowsOf h x=some (r,rd)) (hh:∀b∈rd,h' b=h b):rowsOf h' x=some (r,rd):=by
 unfold rowsOf at hr ⊢;split at hr
 ·exact hr
 ·rename_i b off len cp
  have hb:h' b=h b:=by
   apply hh;split at hr
   ·split at hr
    ·cases hr;simp
    ·cases hr
   ·split at hr
    ·cases hr;simp
    ·cases hr
   ·cases hr
  try simp only
  rw[hb];exact hr
 ·exact hr
 ·exact hr
 ·cases hr
theorem ni {h h':Hp} {size:Nat}:∀ {pa:List (Nat×AV)} {rows r:List (List Tree)} {m:List (Nat×Option aC)},fp h size rows pa=some (r,m)->(∀b∈ids m,h' b=h b)->fp h' size rows pa=some (r,m)
 | [],rows,r,m,hf,_=>hf
 | (i,v)::pa,rows,r,m,hf,hh=>by
  unfold fp at hf;split at hf
  ·rename_i x hx
   split at hf
   ·rename_i hc
    split at hf
    ·rename_i ts m1 h1
     split at hf
     ·rename_i r2 m2 h2
      cases hf;rw[pV]at hh;have e1:=SY (h':=h') h1 fun b hb=>hh b (List.mem_append_left _ hb)
      have e2:=ni (h':=h') h2 fun b hb=>hh b (List.mem_append_right _ hb)
      try simp only[fp,hx,e1,e2]
      try rw[if_pos hc]
     ·cases hf
    ·cases hf
   ·cases hf
  ·cases hf
theorem CV {ti:TI} {slot:Nat} {h h':Hp} {s x:AV} {e:bW} (he:j9 ti slot h s x=some e) (hh:∀b∈e.rd,h' b=h b):j9 ti slot h' s x=some e:=by
 unfold j9 at he;split at he
 ·rename_i b off len b' L7 L8 GR
  split at he
  ·rename_i cs ns hb bK
   split at he
   ·rename_i hc
    cases he;have e1:h' b=h b:=hh b (by simp);have e2:h' b'=h b':=hh b' (by simp);simp only[j9,e1,e2,hb,bK];rw[if_pos hc]
   ·cases he
  ·cases he
 ·cases he
theorem nj {ti:TI} {slot:Nat} {h h':Hp} {s x:AV} {e:bW} (he:bU ti slot h s x=some e) (hh:∀b∈e.rd,h' b=h b):bU ti slot h' s x=some e:=by
 unfold bU at he;split at he
 ·have h1:=CV he hh
  unfold bU;rw[ux h1];exact h1
 ·rename_i new oM hr
  split at he
  ·rename_i h0
   split at he
   ·rename_i hs
    cases he;have:=gJ (h':=h') hr hh
    try simp only[bU,this]
    try rw[if_pos h0,if_pos hs]
   ·cases he
  ·rename_i h0
   split at he
   ·cases he
   ·rename_i jr
    split at he
    ·rename_i rows
     split at he
     ·rename_i hc
      cases he;have:=gJ (h':=h') hr hh
      try simp only[bU,this]
      try rw[if_neg h0,if_neg jr,if_pos hc]
     ·cases he
    ·rename_i b off len cp
     split at he
     ·rename_i sz rows g fz hb
      split at he
      ·cases he
      ·rename_i hc
       have fin:∀rd',e.rd=b::rd'->oM=rd'->bU ti slot h' (.c (.sl b off len cp)) x=bU ti slot h (.c (.sl b off len cp)) x:=by
        rintro rd' e1 rfl
        have e2:=gJ (h':=h') hr fun b hb=>hh b (by rw[e1];exact List.mem_cons_of_mem _ hb)
        have e3:h' b=h b:=hh b (by rw[e1];exact List.mem_cons_self ..)
        try simp only[bU,e2,hr,e3]
       have Wk:bU ti slot h (.c (.sl b off len cp)) x=some e:=by
        try simp only[bU,hr,hb]
        try rw[if_neg h0,if_neg jr,if_neg hc]
        exact he
       have hrd:e.rd=b::oM:=by
        split at he
        ·cases he;rfl
        ·split at he
         ·split at he
          ·cases he;rfl
          ·cases he
         ·split at he
          ·cases he;rfl
          ·cases he
       rw[fin oM hrd rfl];exact Wk
     ·cases he
    ·cases he
theorem CW {ti:TI} {h h':Hp} {d x:AV} {e:bW} (he:lf ti h d x=some e) (hh:∀b∈e.rd,h' b=h b):lf ti h' d x=some e:=by
 unfold lf at he;split at he
 ·rename_i src oM b off len cp hr
  split at he
  ·rename_i sz rows g hb
   split at he
   ·rename_i hc
    cases he;have e2:=gJ (h':=h') hr fun b hb=>hh b (List.mem_cons_of_mem _ hb)
    have e3:h' b=h b:=hh b (List.mem_cons_self ..)
    try simp only[lf,e2,e3,hb]
    try rw[if_pos hc]
   ·cases he
  ·cases he
 ·cases he
theorem EZ {C:eh} {t:TypeId} {h h':Hp} {x:AV} {e:bW} (he:oU C h t x=some e) (hh:∀b∈e.rd,h' b=h b):oU C h' t x=some e:=by
 unfold oU at he ⊢;split at he
 ·cases he
 ·rename_i ti bZ
  try simp only[bZ]
  split at he
  ·exact he
  ·exact he
  ·exact he
  ·exact he
  ·rename_i b hk
   split at he
   ·rename_i cR hb
    cases he;have e3:h' b=h b:=hh b (List.mem_cons_self ..)
    try simp only[e3,hb]
   ·cases he
  ·cases he
theorem va {C:eh} {s d:TypeId} {h h':Hp} {x:AV} {e:bW} (he:eH C h s d x=some e) (hh:∀b∈e.rd,h' b=h b):eH C h' s d x=some e:=by
 unfold eH at he ⊢;split at he
 ·rename_i ts td uv htd
  split at he
  ·simp only[*]
  ·simp only[*]
  ·rename_i el GS GU
   split at he
   ·rename_i te rows rd du hr
    split at he
    ·rename_i l h1 h2 h3
     cases he;have e2:=gJ (h':=h') hr hh
     try simp only[*]
    ·cases he
   ·cases he
  ·cases he
 ·cases he
theorem yy {C:eh} {t:TypeId} {h h':Hp} {x:AV} {lo hi mx:Option AV} {e:bW} (he:dm C h t x lo hi mx=some e) (hh:∀b∈e.rd,h' b=h b):dm C h' t x lo hi mx=some e:=by
 unfold dm at he ⊢;split at he
 ·cases he
 ·rename_i ti bZ
  try simp only[bZ]
  split at he
  ·rename_i l lh m h1 h2 h3
   try simp only[h1,h2,h3]
   split at he
   ·exact he
   ·rename_i el b off len cp hk
    simp only at he ⊢;split at he
    ·rename_i hc
     try rw[if_pos hc]
     split at he
     ·rename_i sz rows g fz te hb du
      split at he
      ·rename_i Kj
       cases he;have e3:h' b=h b:=hh b (List.mem_cons_self ..)
       try simp only[e3,hb,du]
       try rw[if_pos Kj]
      ·cases he
     ·rename_i m' sz rows g fz te hb du
      split at he
      ·rename_i Kj
       cases he;have e3:h' b=h b:=hh b (List.mem_cons_self ..)
       try simp only[e3,hb,du]
       try rw[if_pos Kj]
      ·cases he
     ·rename_i cells te hb du
      split at he
      ·rename_i Kj
       cases he;have e3:h' b=h b:=hh b (List.mem_cons_self ..)
       try simp only[e3,hb,du]
       try rw[if_pos Kj]
      ·cases he
     ·cases he
    ·cases he
   ·exact he
   ·rename_i n el b r c hk
    simp only at he ⊢;split at he
    ·rename_i cells te hb du
     split at he
     ·rename_i hc
      split at he
      ·rename_i ts uv
       cases he;have e3:h' b=h b:=hh b (List.mem_cons_self ..);simp only[e3,hb,du];rw[if_pos hc,uv]
      ·cases he
     ·cases he
    ·cases he
   ·cases he
  ·cases he
theorem wS {h h':Hp} {b:Nat}:∀(ws:List (Nat×Option aC)) {h h':Hp},h' b=h b->Ew h' ws b=Ew h ws b
 | [],h,h',e=>e
 | p::l,h,h',e=>by
  unfold Ew;refine wS (h:=h) (h':=h') l ?_;show(match Nat.beq b p.1 with|true=>p.2|false=>h' b)=match Nat.beq b p.1 with|true=>p.2|false=>h b
  rw[e]
theorem gK:∀(l:List (Nat×Nat×Nat)) {h h':Hp} {ws:List (Nat×Option aC)},fq h l=some ws->(∀b∈im l++ids ws,h' b=h b)->fq h' l=some ws
 | [],h,h',ws,hw,_=>hw
 | (b,r,c)::l,h,h',ws,hw,hh=>by
  have hb:h' b=h b:=hh b (by simp[im]);unfold fq at hw ⊢;rw[hb];cases hx:h b with
  | none=>
   rw[hx]at hw;exact gK l hw fun x hx=>hh x (by simp only[im,List.mem_append,List.mem_cons]at hx ⊢;rcases hx with hx|hx;exact .inl (.inr hx);exact .inr hx)
  | some au=>
   rw[hx]at hw;cases au with
   | var cells=>
    simp only at hw ⊢;cases hs:L9 cells with
    | true=>
     rw[hs]at hw;simp only at hw ⊢;split at hw
     ·rename_i ts m ht
      split at hw
      ·rename_i ws2 YN
       cases hw;have e1:=SY (h':=h') ht fun x hx=>hh x (by simp[im,ids]at hx ⊢;exact .inr (.inr (.inl hx)))
       have e2:=gK l (h':=Ew h' (m ++ [(b,some (.var (ts.map .t)))])) YN fun x hx=>wS (h:=h) (h':=h') _ (hh x (by
        simp only[im,ids,List.map_append,List.map_cons,List.mem_append,List.mem_cons]at hx ⊢;rcases hx with hx|hx
        ·exact .inl (.inr hx)
        ·exact .inr (.inr (.inr hx))))
       rw[e1];simp only[e2]
      ·cases hw
     ·cases hw
    | false=>
     rw[hs]at hw;exact gK l hw fun x hx=>hh x (by simp only[im,List.mem_append,List.mem_cons]at hx ⊢;rcases hx with hx|hx;exact .inl (.inr hx);exact .inr hx)
   | _=>exact gK l hw fun x hx=>hh x (by simp only[im,List.mem_append,List.mem_cons]at hx ⊢;rcases hx with hx|hx;exact .inl (.inr hx);exact .inr hx)
theorem CX {h h':Hp} {f:FuncId} {l:List (Nat×Nat×Nat)} {e:bW} (he:sV h f l=some e) (hh:∀b∈e.rd,h' b=h b):sV h' f l=some e:=by
 unfold sV at he ⊢;split at he
 ·rename_i ws hw
  cases he;rw[gK l hw hh]
 ·cases he
theorem CY {C:eh} {slot:Nat} {σ:Operand->AV} {h h':Hp} {op:Op} {e:bW} (he:evalOp C slot σ h op=some e) (hh:∀b∈e.rd,h' b=h b):evalOp C slot σ h' op=some e:=by
 cases op with
 | load t a=>
  simp only[evalOp]at he ⊢;split at he
  ·rename_i ti bZ
   try simp only[bZ]
   split at he
   ·rename_i b r c hg
    have hb:b∈e.rd:=by
     split at he
     ·split at he
      ·obtain⟨v,_,rfl⟩:=Option.map_eq_some_iff.1 he;simp
      ·cases he
     ·split at he
      ·obtain⟨v,_,rfl⟩:=Option.map_eq_some_iff.1 he;simp
      ·cases he
     ·cases he
    simp only[hh b hb];exact he
   ·exact he
   ·cases he
  ·cases he
 | store t a x=>
  simp only[evalOp]at he ⊢;split at he
  ·rename_i ti cs bZ pF
   try simp only[bZ,pF]
   split at he
   ·rename_i dS
    try rw[if_pos dS]
    split at he
    ·rename_i b r c hg
     split at he
     ·rename_i cells hb
      split at he
      ·rename_i hc
       cases he;have e3:h' b=h b:=hh b (List.mem_cons_self ..)
       try simp only[e3,hb]
       try rw[if_pos hc]
      ·cases he
     ·rename_i sz rows g hb
      split at he
      ·rename_i row ts m da uv
       split at he
       ·rename_i hc
        cases he;have e3:h' b=h b:=hh b (List.mem_cons_self ..);have e4:=SY (h':=h') uv fun b hb=>hh b (List.mem_cons_of_mem _ hb)
        try simp only[e3,hb,da,e4]
        try rw[if_pos hc]
       ·cases he
      ·cases he
     ·cases he
    ·cases he
   ·cases he
  ·cases he
 | buildSlice t len parts=>
  simp only[evalOp]at he ⊢;split at he
  ·rename_i ti bZ
   try simp only[bZ]
   split at he
   ·rename_i el hk
    split at he
    ·rename_i te du
     try simp only[du]
     split at he
     ·rename_i hc
      try rw[if_pos hc]
      split at he
      ·rename_i e1 h1
       cases he;simp only[h1]
      ·rename_i h0
       split at he
       ·rename_i rows m hf
        cases he;rw[ni (h':=h') hf hh]
       ·cases he
     ·cases he
    ·cases he
   ·cases he
  ·cases he
 | convert s d x=>simp only[evalOp]at he ⊢;exact va he hh
 | slice t x lo hi mx=>simp only[evalOp]at he ⊢;exact yy he hh
 | indexAddr t x i=>
  simp only[evalOp]at he ⊢;split at he
  ·rename_i ti n bZ hn
   try simp only[bZ,hn]
   split at he
   ·exact he
   ·rename_i el hk
    split at he
    ·rename_i te du
     try simp only[du]
     split at he
     ·rename_i b off len cp hg
      have hb:b∈e.rd:=by
       split at he
       ·split at he
        ·cases he;simp
        ·cases he
       ·split at he
        ·cases he;simp
        ·cases he
       ·cases he
      simp only[hh b hb];exact he
     ·exact he
     ·cases he
    ·cases he
   ·cases he
  ·cases he
 | lookup t x i ok=>
  simp only[evalOp]at he ⊢;split at he
  ·rename_i ti bZ
   try simp only[bZ]
   split at he
   ·rename_i k el b key hk Cu LM
    have hb:b∈e.rd:=by
     split at he
     ·split at he
      ·cases he
      ·split at he
       ·cases he;simp
       ·cases he;simp
       ·cases he
     ·cases he
    simp only[hh b hb];exact he
   ·cases he
  ·cases he
 | mapUpdate t x i v=>
  simp only[evalOp]at he ⊢;split at he
  ·rename_i ti bZ
   try simp only[bZ]
   split at he
   ·rename_i k el b key tv hk Cu LM VN
    have hb:b∈e.rd:=by
     split at he
     ·split at he
      ·cases he
      ·split at he
       ·cases he;simp
       ·cases he
     ·cases he
    simp only[hh b hb];exact he
   ·cases he
  ·cases he
 | call c=>
  obtain⟨callee,args,argTypes⟩:=c;cases callee with
  | builtin b=>
   simp only[evalOp]at he ⊢;split at he
   ·exact EZ he hh
   ·split at he
    ·rename_i ti bZ
     try simp only[bZ]
     split at he
     ·split at he
      ·rename_i te t1 du yv
       try simp only[du,yv]
       split at he
       ·rename_i OW CM
        try simp only[CM]
        split at he
        ·split at he
         ·cases he
         ·rename_i hz
          try rw[if_neg hz]
          exact nj he hh
        ·split at he
         ·cases he
         ·rename_i hz
          try rw[if_neg hz]
          exact nj he hh
        ·cases he
       ·cases he
      ·cases he
     ·cases he
    ·cases he
   ·split at he
    ·rename_i ti bZ
     try simp only[bZ]
     split at he
     ·split at he
      ·rename_i te du
       try simp only[du]
       split at he
       ·cases he
       ·rename_i hz
        try rw[if_neg hz]
        exact CW he hh
      ·cases he
     ·cases he
    ·cases he
   ·exact he
   ·exact he
   ·cases he
  | _=>simp[evalOp]at he
 | makeFunc fn first aK=>
  cases fn with
  | func f=>
   simp only[evalOp]at he ⊢;split at he
   ·rename_i hz
    rw[if_pos hz];split at he
    ·rename_i l hb hl
     try simp only[hb,hl]
     exact CX he hh
    ·cases he
   ·rename_i hz
    rw[if_neg hz];exact he
  | _=>exact he
 | _=>exact he
end Go.Abs
end
