/- A part. -/
import Derived.IntWalk
import Derived.Test.YtekefilngojelaaGreatM5
set_option maxHeartbeats 0
set_option maxRecDepth 100000
set_option linter.unusedVariables false
set_option linter.unusedSimpArgs false
set_option linter.unusedSectionVars false
section
namespace Go.Abs
def eR (h:bU) (l:List (Nat×Option aA)):bU:=l.foldl (fun h p=>h.set p.1 p.2) h
theorem L0:∀(l:List (Nat×Option aA)) (h:bU),(eR h l).length=h.length
 | [],_=>rfl
 | p::l,h=>by unfold eR;rw[List.foldl_cons];have:=L0 l (h.set p.1 p.2);unfold eR at this;rw[this];simp
theorem iV (p:Nat×Option aA) (l:List (Nat×Option aA)) (h:bU):eR h (p::l)=eR (h.set p.1 p.2) l:=rfl
theorem GJ (l l':List (Nat×Option aA)) (h:bU):eR h (l++l')=eR (eR h l) l':=by simp[eR]
theorem An {h:bU} {b:Nat} (hb:b<h.length) (x:Option aA):look (h.set b x) b=x:=by
 unfold look;rw[List.getElem?_set,if_pos rfl,if_pos hb];rfl
theorem tu {h:bU} {b b':Nat} (dh:b'≠b) (x:Option aA):look (h.set b x) b'=look h b':=by
 unfold look;rw[List.getElem?_set,if_neg (by omega)]
def eJ (h h':bU):Prop:=h'.length=h.length/\∀b,look h' b=look h b∨∃sz rows g fz,look h b=some (.rows sz rows g fz)/\look h' b=some (.rows sz rows g true)
theorem eJ.refl (h:bU):eJ h h:=⟨rfl,fun _=>.inl rfl⟩
section
variable {P:Program} {C:eA} {K:Ctx} {β:Nat->Option bZ} {S:Place} {st:St} {a:Act} {w:World} {slot:Nat} {e:cR} {o:Oper}
theorem Sat.mark (h:Sat K β S st a w) {b sz:Nat} {rows:List (List Tree)} {g fz:Bool} (hb:look st.heap b=some (.rows sz rows g fz)) :
  ∃S',(∀c o,S c o->S' c o)/\Sat K β S' ⟨st.tmps,st.heap.set b (some (.rows sz rows g true))⟩ a w /\
   ∀R,β b=some R->∀o,R.co<=o->o<R.co+rows.length*R.ah->S' R.cb o:=by
 obtain⟨R,hR,je,hx,GH⟩:=h.ao b _ hb;have bJ:=tj hb;obtain⟨h0,h1,h2,h3,XI,h4,h5,h6⟩:=je;have hle:rows.length<=(if g then R.cap else rows.length):=by split<;>omega
 have hmul:=Nat.mul_le_mul_right R.ah hle
 let S':Place:=fun c o=>S c o∨(c=R.cb/\R.co<=o/\o<R.co+rows.length*R.ah)
 have Am:∀c o,S c o->S' c o:=fun _ _ hx=>.inl hx
 have jc:∀c o,S' c o->S c o∨(aA.rows sz rows g fz).ext R c o:=by
  rintro c o (hs|⟨e1,e2,e3⟩)
  ·exact .inl hs
  ·exact .inr ⟨e1,e2,by omega⟩
 refine⟨S',Am,?_,fun R' ia o e1 e2=>by rw[hR]at ia;cases ia;exact .inr ⟨rfl,e1,e2⟩⟩;refine h.step (Wr:=fun _ _=>False) (fun b'=>b'=b) (fp.refl _ _) (fun _ _ hx=>hx.elim) (fun _ _ hx=>hx) (fun b' R' bQ=>by simpa using h.top b' R' bQ) Am (fun c o hs=>?_) (fun b' dj hD bQ=>?_) (fun b' dj hD bQ=>?_)
 ·rcases jc c o hs with hs|hs
  ·exact .inl hs
  ·refine .inr ⟨(hx c o hs).1,(hx c o hs).2,fun b' dj R' hD bQ ia hy=>?_⟩
   exact h.mK b b' _ dj R R' (Ne.symm hD) hb bQ hR ia c o hs (aA.fL hy)
 ·rw[tu hD]at bQ;exact bQ
 ·subst hD
  rw[An bJ]at bQ;cases bQ;refine⟨R,hR,⟨h0,h1,h2,h3,XI,h4,fun i j t ht=>?_,fun _ o e1 e2=>.inr ⟨rfl,e1,e2⟩⟩,hx,fun c o hy hs=>?_,fun Ex iU wi dh jn mQ c o hy=>?_⟩
  ·obtain⟨v,e1,e2⟩:=h5 i j t ht
   exact⟨v,e1,e2.mono Am fun _ _ _=>rfl⟩
  ·obtain⟨e1,e2,e3⟩:=hy
   rw[if_pos rfl]at e2;rcases hs with hs|⟨_,_,e6⟩
   ·refine GH c o ⟨e1,?_,e3⟩ hs
    split<;>omega
   ·omega
  ·rw[tu dh]at jn
   exact h.mK _ _ _ _ R wi (Ne.symm dh) hb jn hR mQ c o hy
theorem pV {cur:bU} (h:Sat K β S ⟨st.tmps,cur⟩ a w) (hm:eJ st.heap cur) {c:Cell} {v:Value} (hc:dv β S w c v) {t:Tree} {m:List (Nat×Option aA)} (ht:toTree (look st.heap) c=some (t,m)) :
  ∃S',(∀c o,S c o->S' c o)/\Sat K β S' ⟨st.tmps,eR cur m⟩ a w/\eJ st.heap (eR cur m)/\dX S' w t v:=by
 unfold toTree at ht;split at ht
 ·cases ht
  cases hc with|t hc=>
  exact⟨S,fun _ _ hx=>hx,h,hm,hc⟩
 ·rename_i b off len cp
  split at ht
  ·rename_i sz rows g fz hb
   split at ht
   ·rename_i hle
    cases ht;have ZD:∃ZE,look cur b=some (.rows sz rows g ZE):=by
     rcases hm.2 b with e|⟨lA,dy,g',ZE,e1,e2⟩
     ·exact⟨fz,by rw[e,hb]⟩
     ·rw[hb]at e1;cases e1;exact⟨true,e2⟩
    obtain⟨ZE,bQ⟩:=ZD;obtain⟨S',Am,kK,R4⟩:=h.mark bQ;refine⟨S',Am,kK,⟨by simp[eR,hm.1],fun b'=>?_⟩,?_⟩
    ·by_cases Cz:b'=b
     ·subst Cz
      exact .inr ⟨sz,rows,g,fz,hb,by simp only[eR,List.foldl_cons,List.foldl_nil];exact An (tj bQ) _⟩
     ·have:look (eR cur [(b,some (.rows sz rows g true))]) b'=look cur b':=by simp only[eR,List.foldl_cons,List.foldl_nil];exact tu Cz _
      rw[this];exact hm.2 b'
    ·cases hc with|sl R base cap hR h1 h2 h3 h4 h5=>
     obtain⟨R',e1,e2,_⟩:=h.ao b _ bQ;rw[hR]at e1;cases e1;obtain⟨f0,f1,f2,f3,f3',f4,f5,f6⟩:=e2;have hl:((rows.drop off).take len).length=len:=by rw[List.length_take,List.length_drop];omega
     have hex:∃val:Nat->Nat->Value,∀i j t,fo ((rows.drop off).take len) i j=some t->w.cell? ⟨R.cb,R.co+off*R.ah+i*R.ah+j,none⟩=some (val i j)/\dX S' w t (val i j):=by
      have:∀i j,∃v,∀t,fo ((rows.drop off).take len) i j=some t->w.cell? ⟨R.cb,R.co+off*R.ah+i*R.ah+j,none⟩=some v/\dX S' w t v:=by
       intro i j;cases ht:fo ((rows.drop off).take len) i j with
       | none=>exact⟨undef,by simp⟩
       | some t=>
        obtain⟨v,a1,a2⟩:=f5 _ _ _ (gN ht).2;refine⟨v,fun t' mX=>?_⟩;cases mX;rw[Nat.add_mul,<-Nat.add_assoc]at a1;exact⟨a1,a2.mono Am fun _ _ _=>rfl⟩
      exact⟨fun i j=>(this i j).choose,fun i j t ht=>(this i j).choose_spec t ht⟩
     obtain⟨val,pU⟩:=hex;have G6:∀r∈((rows.drop off).take len),r.length=R.ah:=fun r hr=>f1 r (ra hr)
     have jc:∀i j t,fo ((rows.drop off).take len) i j=some t->S' R.cb (R.co+off*R.ah+i*R.ah+j):=by
      intro i j t ht;obtain⟨_,_,bJ⟩:=im f1 (gN ht).2;rw[Nat.add_mul]at bJ;exact R4 R hR _ (by omega) (by omega)
     generalize ((rows.drop off).take len)=rs at hl pU G6 jc ⊢;subst hl;refine .aa cp rs base R.cb (R.co+off*R.ah) R.ah cap val h3 (by omega) (by omega) h1 (fun dh=>h5 ?_) (fun hb=>?_) G6 (fun i j t ht=>⟨jc i j t ht,(pU i j t ht).1⟩) (fun i j t ht=>(pU i j t ht).2)
     ·have:=List.length_pos_iff.2 dh;omega
     ·rcases Nat.eq_zero_or_pos cap with h|h
      ·exact h
      ·have:=h5 h;rw[hb]at this;cases this
   ·cases ht
  ·cases ht
 ·cases ht
theorem gF:∀(cs:List Cell) (vs:List Value) (cur:bU) (S:Place) (ts:List Tree) (m:List (Nat×Option aA)),Sat K β S ⟨st.tmps,cur⟩ a w->eJ st.heap cur ->
  vs.length=cs.length->(∀(i:Nat) (c:Cell),cs[i]?=some c->∃v,vs[i]?=some v/\dv β S w c v)->bS (look st.heap) cs=some (ts,m) ->
  ∃S',(∀c o,S c o->S' c o)/\Sat K β S' ⟨st.tmps,eR cur m⟩ a w/\eJ st.heap (eR cur m)/\ts.length=cs.length/\∀(i:Nat) (t:Tree),ts[i]?=some t->∃v,vs[i]?=some v/\dX S' w t v
 | [],vs,cur,S,ts,m,h,hm,_,_,ht=>by
  simp[bS]at ht;obtain⟨rfl,rfl⟩:=ht;exact⟨S,fun _ _ hx=>hx,h,hm,rfl,by simp⟩
 | c::cs,[],_,_,_,_,_,_,hl,_,_=>by simp at hl
 | c::cs,v::vs,cur,S,ts,m,h,hm,hl,hr,ht=>by
  unfold bS at ht;split at ht
  ·rename_i t m1 yt
   split at ht
   ·rename_i OX m2 Vf
    cases ht;obtain⟨v',sV,hc⟩:=hr 0 c rfl;simp at sV;subst sV;obtain⟨S1,QO,Ey,Ak,R6⟩:=pV h hm hc yt;obtain⟨S2,QP,Vj,JK,fM,uC⟩:=gF cs vs _ S1 OX m2 Ey Ak (by simpa using hl) (fun i c hi=>by
     obtain⟨u,e1,e2⟩:=hr (i+1) c (by simpa using hi);exact⟨u,by simpa using e1,e2.mono (fun _ _ hx=>hx) QO fun _ _ _=>rfl⟩) Vf
    refine⟨S2,fun c o hx=>QP _ _ (QO _ _ hx),by rw[GJ];exact Vj,by rw[GJ];exact JK,by simp[fM],fun i t' hi=>?_⟩;cases i with
    | zero=>simp at hi;subst hi;exact⟨v,rfl,R6.mono QP fun _ _ _=>rfl⟩
    | succ i=>simpa using uC i t' (by simpa using hi)
   ·cases ht
  ·cases ht
def oS (P:Program) (K:Ctx) (β:Nat->Option bZ) (S:Place) (st:St) (a:Act) (w:World) (slot:Nat) (o:Oper) (e:cR):Prop:=
 ∃w' β' S' v nx,(execOp a.eval o).run P w=.ok nx w'/\(nx=.value v∨(nx=.skip/\v=undef))/\(∀b,b≠slot->β' b=β b) /\
  Sat K β' S' ⟨st.tmps,eR st.heap e.wr⟩ a w'/\aI β' S' w' e.val v
theorem fw.lI (h:Sat K β S st a w) (hq:fw P β S a w o e):oS P K β S st a w slot o e:=by
 obtain⟨h1,v,h2,h3⟩:=hq;exact⟨w,β,S,v,_,h2,.inl rfl,fun _ _=>rfl,by rw[h1];exact h,h3⟩
theorem OY (hC:bC P C) (h:Sat K β S st a w) (hs:slot<st.heap.length) (hf:β slot=none) {t:TypeId} (ho:o.op=.alloc t)
  (he:evalOp C slot st.get (look st.heap) (.alloc t)=some e):oS P K β S st a w slot o e:=by
 simp only[evalOp]at he;split at he
 ·rename_i ti cZ
  cases he;have dQ:=jh (hC t ti cZ);obtain⟨i,z,h1,h2,h3,h4,_⟩:=rf dQ S w β;obtain⟨β',e1,e2,e3⟩:=h.newVar hs hf (w':={ w with heap:=w.heap.push (.cells z.cells t) }) (cells:=z.cells) (el:=t) rfl rfl rfl rfl h4;refine⟨_,β',S,_,_,?_,.inl rfl,e1,e2,e3⟩;simp only[execOp,ho,Instr.alloc,Go.zeroValue,Go.typeInfo,Sem.run_bind,run_program,h1,Result.andThen,Sem.run_pure,h2,newVar,newRow,run_newObj]
 ·cases he
theorem Vk (hC:bC P C) (h:Sat K β S st a w) (hs:slot<st.heap.length) (hf:β slot=none) {t:TypeId} {x:Operand} (ho:o.op=.box t x)
  (he:evalOp C slot st.get (look st.heap) (.box t x)=some e):oS P K β S st a w slot o e:=by
 simp only[evalOp]at he;split at he
 ·rename_i ti cs cZ pP
  split at he
  ·cases he
   obtain⟨h1,h2⟩:=(h.get x).Cq pP;obtain⟨β',e1,e2,e3⟩:=h.newVar hs hf (w':={ w with heap:=w.heap.push (.cells (a.eval x).cells t) }) (cells:=(a.eval x).cells) (el:=t) rfl rfl rfl rfl ⟨by simpa using h1,by simpa using h2⟩;refine⟨_,β',S,_,_,?_,.inl rfl,e1,e2,e3⟩;simp only[execOp,ho,Instr.box,Sem.run_bind,Result.andThen,Sem.run_pure,newVar,newRow,run_newObj]
  ·cases he
 ·cases he
theorem JP (hC:bC P C) (h:Sat K β S st a w) (hs:slot<st.heap.length) (hf:β slot=none) {t:TypeId} {r:Option Operand} (ho:o.op=.makeMap t r)
  (he:evalOp C slot st.get (look st.heap) (.makeMap t r)=some e):oS P K β S st a w slot o e:=by
 simp only[evalOp]at he;split at he
 ·rename_i ti cZ
  split at he
  ·rename_i k el hk
   cases he
   let R:bZ:=⟨w.heap.size,0,0,0⟩
   refine⟨{ w with heap:=w.heap.push (.map #[] 0) },(fun b=>if b=slot then some R else β b),S,.map (some w.heap.size),.value (.map (some w.heap.size)),?_,.inl rfl,fun b hb=>if_neg hb,?_,.c (.mp R (by simp))⟩
   ·simp only[execOp,ho,Instr.makeMap,Option.map_none,Sem.run_bind,Result.andThen,Sem.run_pure,run_newObj]
   ·refine h.new hs hf (R:=R) rfl rfl rfl rfl rfl (fun _ _ hx=>hx) (fun _ _ hx=>.inl hx) ⟨by have:=h.jM.size;unfold Ctx.B0;simp[R];omega,#[],0,by simp[R],rfl,by simp⟩ fun c o hx hy=>?_
    have e1:c=w.heap.size:=hx.1;have:=h.sT c o hy;omega
  ·cases he
 ·cases he
theorem Ez {t:TypeId} {ti:TI} (dQ:g9 P t ti) (dY:ti.size≠0) (S:Place) (w:World) (n:Nat):∃z:Value,(zeroValue t).run P w=.ok z w/\z.cells.size=ti.size /\
  Flat S w (List.replicate n ti.zero) ti.size (((Array.range (n*ti.size)).map (z.cells[· % z.cells.size]!)).toList):=by
 obtain⟨z,e1,e2,e3,_,_⟩:=dQ.zeroValue w S;refine⟨z,e1,e2,by simp,fun i j t' ht=>?_⟩;obtain⟨row,h1,h2,h3,h4⟩:=jd ht;rw[List.length_replicate]at h3;rw[List.getElem?_replicate,if_pos h3]at h1;cases h1;rw[dQ.len]at h4;obtain⟨v,hv,hr⟩:=e3 j t' h2;refine⟨v,?_,hr⟩;have bJ:i*ti.size+j<n*ti.size:=by
  have:=Nat.mul_le_mul_right ti.size (show i+1<=n by omega);rw[Nat.succ_mul]at this;omega
 have R7:(i*ti.size+j)%ti.size=j:=by rw[Nat.mul_comm,Nat.mul_add_mod,Nat.mod_eq_of_lt h4]
 simp only[Array.toList_map,List.getElem?_map,Array.toList_range,List.getElem?_range bJ,Option.map_some,e2,R7];congr 1;have sV:z.cells[j]?=some v:=by simpa using hv
 rw[getElem!_pos z.cells j (by rw[e2];exact h4)];rw[Array.getElem?_eq_getElem (by rw[e2];exact h4)]at sV;cases sV;rfl
theorem Sat.JQ (h:Sat K β S st a w) {b:Nat} {ts:List Tree} (hb:look st.heap b=some (.rows 1 (ts.map fun t=>[t]) true false)) :
  Sat K β S ⟨st.tmps,st.heap.set b (some (.var (ts.map .t)))⟩ a w:=by
 obtain⟨R,hR,je,hx,GH⟩:=h.ao b _ hb;obtain⟨q0,q1,q2,q3,R9,q4,q5,q6⟩:=je;have bJ:=tj hb;have Sa:∀c o,(aA.var (ts.map .t)).ext R c o->(aA.rows 1 (ts.map fun t=>[t]) true false).ext R c o:=by
  rintro c o ⟨e1,e2,e3⟩
  refine⟨e1,e2,?_⟩;simp only[List.length_map,if_true]at e3 q2 ⊢;rw[<-q0,Nat.mul_one];omega
 refine h.step (Wr:=fun _ _=>False) (fun b'=>b'=b) (fp.refl _ _) (fun _ _ hx=>hx.elim) (fun _ _ hx=>hx) (fun b' R' bQ=>by simpa using h.top b' R' bQ) (fun _ _ hs=>hs) (fun c o hs=>.inl hs) (fun b' dj hD bQ=>by rwa[tu hD]at bQ) (fun b' dj hD bQ=>?_);subst hD;rw[An bJ]at bQ;cases bQ;refine⟨R,hR,⟨⟨fun o e1 e2=>?_,q0.symm,q3⟩,fun j c hj=>?_⟩,fun c o hy=>hx c o (Sa c o hy),fun c o hy=>GH c o ?_,fun b2 JR R2 dh nk mY c o hy hz=>?_⟩
 ·refine q4 o e1 ?_
  simp only[List.length_map,if_true]at e2 q2 ⊢;rw[<-q0,Nat.mul_one];omega
 ·rw[List.getElem?_map]at hj
  obtain⟨t,ht,rfl⟩:=Option.map_eq_some_iff.1 hj;obtain⟨v,e1,e2⟩:=q5 j 0 t (by unfold fo;rw[List.getElem?_map,ht];rfl);refine⟨v,?_,.t e2⟩;rw[<-q0,Nat.mul_one,Nat.add_zero]at e1;exact e1
 ·obtain⟨e1,e2,e3⟩:=Sa c o hy
  exact⟨e1,by simpa using e2,e3⟩
 ·rw[tu dh]at nk
  exact h.mK b' b2 _ JR R R2 (Ne.symm dh) hb nk hR mY c o (Sa c o hy) hz
theorem EA (hC:bC P C) (h:Sat K β S st a w) (hs:slot<st.heap.length) (hf:β slot=none) {t:TypeId} {l c:Operand} (ho:o.op=.makeSlice t l c)
  (he:evalOp C slot st.get (look st.heap) (.makeSlice t l c)=some e):oS P K β S st a w slot o e:=by
 simp only[evalOp]at he;split at he
 ·rename_i ti cZ
  have dQ:=jh (hC t ti cZ);split at he
  ·rename_i el hk
   split at he
   ·rename_i te n m dx hn hm
    have eI:=jh (hC _ te dx);split at he
    ·rename_i hr
     obtain⟨r1,r2,r3,r4,r5⟩:=hr;obtain⟨k1,oT,_⟩:=(h.get l).int hn;obtain⟨k2,fM,_⟩:=(h.get c).int hm;obtain⟨z,z1,z2,z3⟩:=Ez eI r5 S w m.toNat;obtain⟨i,i1,i2,_⟩:=eI.typeInfo w;have hmb:m<=(au:Int):=by
      have h1:m*1<=m*(te.bytes:Int):=Int.mul_le_mul_of_nonneg_left (by omega) (by omega);omega
     unfold au at hmb r3;have G5:n.toNat<=m.toNat:=by omega
     have hwn:IntKind.i64.wrap n=n:=IntWalk.i64_in n (by omega);have hwm:IntKind.i64.wrap m=m:=IntWalk.i64_in m (by omega)
     let cells:Array Value:=(Array.range (m.toNat*te.size)).map (z.cells[· % z.cells.size]!)
     have Cr:Flat S w (List.replicate n.toNat te.zero) te.size (cells.toList.take ((List.replicate n.toNat te.zero).length*te.size)):=by
      have hmul:=Nat.mul_le_mul_right te.size G5;refine⟨by rw[List.length_take,List.length_replicate,Nat.min_eq_left (by simp[cells];exact hmul)],fun i j t ht=>?_⟩;have jc:=im (size:=te.size) (fun r hr=>by rw[(List.mem_replicate.1 hr).2];exact eI.len) ht;obtain⟨v,e1,e2⟩:=z3.2 i j t (by
       obtain⟨row,h1,h2,h3,h4⟩:=jd ht;rw[List.length_replicate]at h3;rw[List.getElem?_replicate,if_pos h3]at h1;exact Gy (by rw[List.getElem?_replicate,if_pos (by omega)];exact h1) h2)
      exact⟨v,by rw[List.getElem?_take,if_pos jc.2.2];exact e1,e2⟩
     obtain⟨β',S',e1,e2,e3,e4⟩:=h.Cx hs hf (w':={ w with heap:=w.heap.push (.cells cells el) }) (cells:=cells) (el:=el) (rows:=List.replicate n.toNat te.zero) (size:=te.size) (cap:=m.toNat) (g:=true) (fz:=false) rfl rfl rfl rfl
      (fun r hr=>by rw[(List.mem_replicate.1 hr).2];exact eI.len) (by simp;omega) (by omega) (by simp;omega) (by simp[cells]) Cr
     rw[List.length_replicate]at e3;have di:(execOp a.eval o).run P w=.ok (.value (.slice (some ⟨w.heap.size,0,none⟩) n.toNat m.toNat)) { w with heap:=w.heap.push (.cells cells el) }:=by
      have mR:¬(((m<0∨(te.bytes:Int)*m>2^48)∨n<0)∨n>m):=by
       have:=Int.mul_comm (te.bytes:Int) m;omega
      simp only[execOp,ho,Instr.makeSlice,run_underlying (dQ.slice hk),Sem.run_bind,Result.andThen,oT,fM,asInt,asIntOf,Sem.run_pure,i1,i2,hwn,hwm,Sem.run_ite,run_askRoom,eI.sizeOf,newRow,run_newObj];rw[if_neg (by simpa[Bool.or_eq_true]using mR)]
      by_cases h0:m.toNat*te.size=0
      ·have yu:m.toNat=0:=by
        rcases Nat.mul_eq_zero.1 h0 with h|h
        ·exact h
        ·exact absurd h r5
       simp[h0,cells,yu,Array.range_zero']
      ·simp[h0,cells,z1]
     split at he
     ·rename_i z0 pP JS
      cases he;have ZF:te.size=1:=by rw[<-eI.len,JS];rfl
      have jB:List.replicate n.toNat [z0]=(List.replicate n.toNat z0).map fun t=>[t]:=by rw[List.map_replicate]
      rw[JS,ZF,jB]at e2;have e5:=Sat.JQ e2 (b:=slot) (ts:=List.replicate n.toNat z0) (An hs _);simp only[List.set_set]at e5;rw[show(List.replicate n.toNat z0).map Cell.t=List.replicate n.toNat (.t z0) from List.map_replicate]at e5;exact⟨_,β',S',_,_,di,.inl rfl,e1,e5,e3⟩
     ·cases he
      exact⟨_,β',S',_,_,di,.inl rfl,e1,e2,e3⟩
    ·cases he
   ·cases he
  ·cases he
 ·cases he
end
theorem CA (w:World) (b o:Nat) (v:Value):fp (fun c o'=>c=b/\o'=o) w (w.setCell ⟨b,o,none⟩ v):=by
 refine⟨rfl,rfl,rfl,by simp[World.setCell],fun k ob hk=>?_⟩;simp only[World.setCell,Array.getElem?_modify]
 by_cases hb:b=k
 ·subst hb
  rw[if_pos rfl,hk];cases ob with
  | cells c el fr=>
   refine⟨c.setIfInBounds o v,rfl,by simp,fun i hi=>?_⟩;rw[Array.getElem?_setIfInBounds,if_neg (by rintro rfl;exact hi ⟨rfl,rfl⟩)]
  | map es cl=>exact⟨es,cl,rfl,fun _=>⟨rfl,rfl⟩⟩
  | _=>rfl
 ·rw[if_neg hb,hk]
  exact fZ.refl _ _ _
theorem iI (b:Nat):∀(vs:List Value) (lo:Nat) (w:World),fp (fun c o=>c=b/\lo<=o/\o<lo+vs.length) w (w.setCells b lo vs)
 | [],lo,w=>fp.refl _ _
 | v::vs,lo,w=>by
  have h1:=(CA w b lo v).mono (W':=fun c o=>c=b/\lo<=o/\o<lo+(v::vs).length) fun c o _ hx=>⟨hx.1,by omega,by simp;omega⟩
  exact h1.trans (iI b vs (lo+1) _) fun c o _ hx=>⟨hx.1,by omega,by simp;omega⟩
theorem Vl (b:Nat):∀(vs:List Value) (lo:Nat) (w:World),(w.setCells b lo vs).heap.size=w.heap.size
 | [],_,_=>rfl
 | v::vs,lo,w=>by rw[World.setCells,Vl b vs];simp[World.setCell]
section
variable {P:Program} {C:eA} {K:Ctx} {β:Nat->Option bZ} {S:Place} {st:St} {a:Act} {w:World} {slot:Nat} {e:cR} {o:Oper}
theorem Ul {w:World} {cb co n:Nat} (h:there w cb co n) {b lo:Nat} {vs:List Value} (jc:∀j,j<vs.length->(w.cell? ⟨b,lo+j,none⟩).isSome=true):there (w.setCells b lo vs) cb co n:=by
 intro o h1 h2;obtain⟨e1,e2⟩:=h o h1 h2;rw[World.frozen?_setCells];refine⟨?_,e2⟩
 by_cases hx:cb=b/\lo<=o/\o<lo+vs.length
 ·obtain⟨rfl,h3,h4⟩:=hx
  have:=World.cell?_setCells_in cb vs lo w jc (o-lo) (by omega);rw[show lo+(o-lo)=o by omega]at this;rw[this];rfl
 ·rw[World.cell?_setCells_out b vs lo w ⟨cb,o,none⟩ (fun e _=>by
   have:cb=b:=e;show o<lo∨lo+vs.length<=o
   omega)]
  exact e1
theorem Sat.write (h:Sat K β S st a w) {b:Nat} {ao dj:aA} {R:bZ} (hb:look st.heap b=some ao) (hR:β b=some R) (lo:Nat) (vs:List Value)
  (jc:∀j,j<vs.length->ao.wr R R.cb (lo+j)) (CB:∀c o,dj.ext R c o->ao.ext R c o) (GH:∀c o,dj.wr R c o->ao.wr R c o)
  (je:eH β S (w.setCells R.cb lo vs) K.B0 R dj):Sat K β S ⟨st.tmps,st.heap.set b (some dj)⟩ a (w.setCells R.cb lo vs):=by
 obtain⟨R',ia,_,hx,hw⟩:=h.ao b _ hb;rw[hR]at ia;cases ia;have bJ:=tj hb;have L1:∀c o,(c=R.cb/\lo<=o/\o<lo+vs.length)->ao.wr R c o:=by
  rintro c o ⟨rfl,h1,h2⟩
  have:=jc (o-lo) (by omega);rwa[show lo+(o-lo)=o by omega]at this
 refine h.step (fun b'=>b'=b) (iI R.cb vs lo w) (fun c o hc bJ=>⟨hw c o (L1 c o hc),(hx c o (aA.fL (L1 c o hc))).2,fun b' iU wi hD bQ mQ hy=>?_⟩) (fun _ _ hx=>hx) (fun b' R' bQ=>by simpa using h.top b' R' bQ) (fun _ _ hx=>hx) (fun c o hs=>.inl hs) (fun b' iU hD bQ=>?_) (fun b' iU hD bQ=>?_)
 ·exact h.mK b b' _ iU R wi (Ne.symm hD) hb bQ hR mQ c o (aA.fL (L1 c o hc)) hy
 ·rw[tu hD]at bQ;exact bQ
 ·subst hD
  rw[An bJ]at bQ;cases bQ;refine⟨R,hR,je,fun c o hy=>?_,fun c o hy=>hw c o (GH c o hy),fun Ex iU wi dh jn mQ c o hy=>?_⟩
  ·rw[Vl];exact hx c o (CB c o hy)
  ·rw[tu dh]at jn
   exact h.mK _ _ _ _ R wi (Ne.symm dh) hb jn hR mQ c o (CB c o hy)
theorem CE {t:TypeId} {ti:TI} (dQ:g9 P t ti) {v:Value} (dY:v.cells.toList.length=ti.size) (JG:∀u∈v.cells.toList,one u) {cb co:Nat} (vy:there w cb co ti.size) :
  (storeVar t ⟨cb,co,none⟩ v).run P w=.ok () (w.setCells cb co v.cells.toList):=by
 have hs:=run_storeCells_cells (P:=P) cb co v.cells.toList 0 w (fun j hj=>(vy (co+0+j) (by omega) (by omega)).1) (fun j hj=>(vy (co+0+j) (by omega) (by omega)).2) (fun u hu=>iQ (JG u hu));simp only[Nat.add_zero]at hs;simp only[storeVar,Sem.run_bind,dQ.sizeOf,Result.andThen];rw[if_neg (by simpa using dY)];exact hs
theorem gG {b lo:Nat} {vs:List Value} (jc:∀j,j<vs.length->(w.cell? ⟨b,lo+j,none⟩).isSome=true) {k:Nat} (h1:lo<=k) (h2:k<lo+vs.length) {v:Value} (hv:vs[k-lo]?=some v) :
  (w.setCells b lo vs).cell? ⟨b,k,none⟩=some v:=by
 have:=World.cell?_setCells_in b vs lo w jc (k-lo) (by omega);rw[show lo+(k-lo)=k by omega]at this;rw[this,<-List.getElem?_eq_getElem];exact hv
theorem Sb {b lo:Nat} {vs:List Value} {c k:Nat} (h:¬(c=b/\lo<=k/\k<lo+vs.length)):(w.setCells b lo vs).cell? ⟨c,k,none⟩=w.cell? ⟨c,k,none⟩:=
 World.cell?_setCells_out b vs lo w ⟨c,k,none⟩ fun e _=>by
  have:c=b:=e;show k<lo∨lo+vs.length<=k
  omega
theorem Sat.eC (h:Sat K β S st a w) {b:Nat} {ao:aA} {R:bZ} (hb:look st.heap b=some ao) (hR:β b=some R) {lo:Nat} {vs:List Value} (jc:∀j,j<vs.length->ao.wr R R.cb (lo+j)) :
  ∀c o,S c o->(w.setCells R.cb lo vs).cell? ⟨c,o,none⟩=w.cell? ⟨c,o,none⟩:=by
 obtain⟨R',ia,_,hx,hw⟩:=h.ao b _ hb;rw[hR]at ia;cases ia;intro c o hs;refine Sb fun hx=>?_
 obtain⟨rfl,h1,h2⟩:=hx;have:=jc (o-lo) (by omega);rw[show lo+(o-lo)=o by omega]at this;exact hw _ _ this hs
theorem O0 (hC:bC P C) (h:Sat K β S st a w) {t:TypeId} {x y:Operand} (ho:o.op=.store t x y)
  (he:evalOp C slot st.get (look st.heap) (.store t x y)=some e):oS P K β S st a w slot o e:=by
 simp only[evalOp]at he;have hx:=h.get x;have hy:=h.get y;split at he
 ·rename_i ti cs cZ pP
  have dQ:=jh (hC t ti cZ);obtain⟨oT,fM⟩:=hy.Cq pP;split at he
  ·rename_i dY
   have JG:∀u∈(a.eval y).cells.toList,one u:=by
    intro u hu;obtain⟨i,hi⟩:=List.getElem?_of_mem hu;have bJ:=uz hi;obtain⟨u',e1,e2⟩:=fM i (cs[i]'(by omega)) (List.getElem?_eq_getElem _);rw[hi]at e1;cases e1;exact e2.one
   split at he
   ·rename_i b r c hg
    rw[hg]at hx;cases hx with|c hx=>
    generalize eL:a.eval x=av at hx;cases hx with|ptr R hR=>
    have di:∀co,there w R.cb co ti.size->a.eval x=.pointer (some ⟨R.cb,co,none⟩)->(execOp a.eval o).run P w=.ok .skip (w.setCells R.cb co (a.eval y).cells.toList):=by
     intro co vy XX;simp only[execOp,ho,Instr.storeAt,XX,Instr.sureAddr,Sem.run_bind,Sem.run_pure,Result.andThen,CE dQ (by omega) JG vy]
    split at he
    ·rename_i cells hb
     split at he
     ·rename_i hr
      obtain⟨rfl,hle⟩:=hr;cases he;obtain⟨R',e1,⟨⟨e2,e2s⟩,e3⟩,e4,e5⟩:=h.ao b _ hb;rw[hR]at e1;cases e1;rw[show R.co+0*R.ah+c=R.co+c by omega]at eL;have vy:there w R.cb (R.co+c) ti.size:=fun o h1 h2=>e2 o (by omega) (by omega)
      have jc:∀j,j<(a.eval y).cells.toList.length->(aA.var cells).wr R R.cb (R.co+c+j):=fun j hj=>⟨rfl,by omega,by omega⟩
      have hex:∀j,j<(a.eval y).cells.toList.length->(w.cell? ⟨R.cb,R.co+c+j,none⟩).isSome=true:=fun j hj=>(vy _ (by omega) (by omega)).1
      have hlen:=RY cells cs c hle;have Ao:=h.eC hb hR jc;refine⟨_,β,S,undef,.skip,di _ vy eL,.inr ⟨rfl,rfl⟩,fun _ _=>rfl,?_,.af _⟩;refine h.write hb hR _ _ jc (fun c o hy=>by rw[aA.ext,hlen]at hy;exact hy) (fun c o hy=>by rw[aA.wr,hlen]at hy;exact hy) ⟨⟨?_,e2s⟩,fun j y hj=>?_⟩
      ·rw[hlen];exact Ul e2 hex
      ·rw[OV _ _ _ _ hle]at hj
       split at hj
       ·rename_i hjr
        obtain⟨u,f1,f2⟩:=fM _ _ hj;exact⟨u,gG hex (by omega) (by omega) (by rw[show R.co+j-(R.co+c)=j-c by omega];exact f1),f2.mono (fun _ _ hx=>hx) (fun _ _ hx=>hx) Ao⟩
       ·rename_i hjr
        obtain⟨u,f1,f2⟩:=e3 _ _ hj;exact⟨u,by rw[Sb (by omega)];exact f1,f2.mono (fun _ _ hx=>hx) (fun _ _ hx=>hx) Ao⟩
     ·cases he
    ·rename_i sz rows g hb
     split at he
     ·rename_i row ts m dk uC
      split at he
      ·rename_i hr
       obtain⟨hle,Um⟩:=hr;cases he;obtain⟨S1,QO,Ey,Ak,aez,ZG⟩:=gF cs (a.eval y).cells.toList st.heap S ts m h (eJ.refl _) (by omega) fM uC;have mZ:look (eR st.heap m) b=some (.rows sz rows g false):=by
        have:∀(m:List (Nat×Option aA)) (h0:bU),(ids m).contains b=false->look (eR h0 m) b=look h0 b:=by
         intro m
         induction m with
         | nil=>intro h0 _;rfl
         | cons p m ih=>
          intro h0 hc;simp only[ids,List.map_cons,List.contains_cons,Bool.or_eq_false_iff]at hc;rw[iV,ih _ (by simpa[ids]using hc.2),tu (by simpa using hc.1)]
        rw[this m st.heap (by simpa using Um)];exact hb
       obtain⟨R',e1,⟨e2',e2,e3,e4,Vm,e5,e6,e7⟩,e8,e9⟩:=Ey.ao b _ mZ;rw[hR]at e1;cases e1;have yv:row.length=R.ah:=e2 row (List.mem_of_getElem? dk);have aeB:=uz dk;have hmul:(r+1)*R.ah<=rows.length*R.ah:=Nat.mul_le_mul_right _ (by omega);rw[Nat.succ_mul]at hmul;have ab5:rows.length*R.ah<=(if g then R.cap else rows.length)*R.ah:=Nat.mul_le_mul_right _ (by split<;>omega)
       have vy:there w R.cb (R.co+r*R.ah+c) ti.size:=fun o h1 h2=>e5 o (by omega) (by omega)
       have jc:∀j,j<(a.eval y).cells.toList.length->(aA.rows sz rows g false).wr R R.cb (R.co+r*R.ah+c+j):=fun j hj=>⟨rfl,by simp;omega,by omega⟩
       have hex:∀j,j<(a.eval y).cells.toList.length->(w.cell? ⟨R.cb,R.co+r*R.ah+c+j,none⟩).isSome=true:=fun j hj=>(vy _ (by omega) (by omega)).1
       have Ao:=Ey.eC mZ hR jc;have hlen:(rows.set r (aZ row c ts)).length=rows.length:=by simp
       have gn:∀i j t,fo (rows.set r (aZ row c ts)) i j=some t->(i=r/\c<=j/\j<c+ts.length/\ts[j-c]?=some t)∨(fo rows i j=some t/\¬(i=r/\c<=j/\j<c+ts.length)):=by
        intro i j t ht;obtain⟨aeC,q1,q2,q3,q4⟩:=jd ht;rw[List.getElem?_set]at q1;split at q1
        ·rename_i ZH
         subst ZH;cases q1;rw[OV _ _ _ _ hle]at q2;split at q2
         ·rename_i XZ;exact .inl ⟨rfl,XZ.1,XZ.2,q2⟩
         ·rename_i XZ;exact .inr ⟨Gy dk q2,fun hx=>XZ hx.2⟩
        ·rename_i ZH
         exact .inr ⟨Gy q1 q2,fun hx=>ZH hx.1.symm⟩
       refine⟨_,β,S1,undef,.skip,di _ vy eL,.inr ⟨rfl,rfl⟩,fun _ _=>rfl,?_,.af _⟩;rw[GJ];refine Ey.write mZ hR _ _ jc (fun c o hy=>by rw[aA.ext,hlen]at hy;exact hy) (fun c o hy=>by rw[aA.wr,hlen]at hy;exact hy) ⟨e2',fun r' vx=>?_,by rw[hlen];exact e3,e4,by rw[hlen];exact Vm,?_,fun i j t' ht=>?_,by simp⟩
       ·rcases List.mem_or_eq_of_mem_set vx with h1|h1
        ·exact e2 r' h1
        ·rw[h1,RY _ _ _ hle];exact yv
       ·rw[hlen];exact Ul e5 hex
       ·rcases gn i j t' ht with⟨rfl,q1,q2,q3⟩|⟨q1,q2⟩
        ·obtain⟨u,f1,f2⟩:=ZG _ _ q3
         exact⟨u,gG hex (by omega) (by omega) (by rw[show R.co+i*R.ah+j-(R.co+i*R.ah+c)=j-c by omega];exact f1),f2.mono (fun _ _ hx=>hx) Ao⟩
        ·obtain⟨u,f1,f2⟩:=e6 _ _ _ q1
         refine⟨u,?_,f2.mono (fun _ _ hx=>hx) Ao⟩;rw[Sb]
         ·exact f1
         ·rintro⟨_,h3,h4⟩
          obtain⟨_,hj,_⟩:=im e2 q1;have hir:i=r:=by
           rcases Nat.lt_trichotomy i r with h5|h5|h5
           ·have:=Nat.mul_le_mul_right R.ah (show i+1<=r by omega)
            rw[Nat.succ_mul]at this;omega
           ·exact h5
           ·have:=Nat.mul_le_mul_right R.ah (show r+1<=i by omega)
            rw[Nat.succ_mul]at this;omega
          subst hir;exact q2 ⟨rfl,by omega,by omega⟩
      ·cases he
     ·cases he
    ·cases he
   ·cases he
  ·cases he
 ·cases he
end
section
variable {P:Program} {C:eA} {K:Ctx} {β:Nat->Option bZ} {S:Place} {st:St} {a:Act} {w:World} {slot:Nat} {e:cR} {o:Oper}
theorem Sat.drawn (h:Sat K β S st a w) (d:Nat):Sat K β S st a { w with drawn:=d }:=by
 have hk:fp (fun _ _=>False) w { w with drawn:=d }:=⟨rfl,rfl,rfl,Nat.le_refl _,fun k ob hk=>by show fZ _ k ob (w.heap[k]?);rw[hk];exact fZ.refl _ _ _⟩;exact h.step (fun _=>False) hk (fun _ _ hx=>hx.elim) (fun _ _ hx=>hx) h.top (fun _ _ hx=>hx) (fun _ _ hx=>.inl hx) (fun _ _ _ hx=>hx) (fun _ _ hx=>hx.elim)
theorem aI.drawn {x:AV} {v:Value} (h:aI β S w x v) (d:Nat):aI β S { w with drawn:=d } x v:=h.mono (fun _ _ hx=>hx) (fun _ _ hx=>hx) (fun _ _ _=>rfl)
theorem Flat.mono {S S':Place} {w w':World} {rows:List (List Tree)} {size:Nat} {vs:List Value} (h:Flat S w rows size vs) (hS:∀b o,S b o->S' b o)
  (hw:∀b o,S b o->w'.cell? ⟨b,o,none⟩=w.cell? ⟨b,o,none⟩):Flat S' w' rows size vs:=
 ⟨h.1,fun i j t ht=>by obtain⟨v,e1,e2⟩:=h.2 i j t ht;exact⟨v,e1,e2.mono hS hw⟩⟩
theorem wk {α:Type} {r1 r2:List (List α)} {i j:Nat} {t:α} (h:fo (r1++r2) i j=some t):(i<r1.length/\fo r1 i j=some t)∨(r1.length<=i/\fo r2 (i-r1.length) j=some t):=by
 unfold fo at h ⊢;rw[List.getElem?_append]at h;split at h
 ·exact .inl ⟨by assumption,h⟩
 ·exact .inr ⟨by omega,h⟩
theorem Flat.append {S:Place} {w:World} {r1 r2:List (List Tree)} {size:Nat} {v1 v2:List Value} (h1:Flat S w r1 size v1) (h2:Flat S w r2 size v2) (ji:∀r∈r1,r.length=size):Flat S w (r1++r2) size (v1++v2):=by
 refine⟨by rw[List.length_append,List.length_append,h1.1,h2.1,Nat.add_mul],fun i j t ht=>?_⟩;rcases wk ht with⟨hi,ht⟩|⟨hi,ht⟩
 ·obtain⟨v,e1,e2⟩:=h1.2 i j t ht
  exact⟨v,by rw[List.getElem?_append,if_pos (uz e1)];exact e1,e2⟩
 ·obtain⟨v,e1,e2⟩:=h2.2 _ j t ht
  have:i*size=r1.length*size+(i-r1.length)*size:=by rw[<-Nat.add_mul];congr 1;omega
  refine⟨v,?_,e2⟩;rw[List.getElem?_append,if_neg (by rw[h1.1];omega),h1.1,show i*size+j-r1.length*size=(i-r1.length)*size+j by omega];exact e1
structure vz (P:Program) (argTypes:Array TypeId) (el:TypeId):Prop where
 t0:∃t,argTypes[0]?=some t/\P.underlying t=some (.slice el)
 t1:∃t,argTypes[1]?=some t/\((∃e',P.underlying t=some (.slice e'))∨P.underlying t=some .string)
theorem X0 {argTypes:Array TypeId} {ty el:TypeId} {te:TI} (ha:vz P argTypes el) (dQ:g9 P el te) {base:Option Addr} {fe lJ n:Nat} {xv:Value} {vs:List Value}
  (hlen:(Builtin.lenOf xv).run P w=.ok n w) (Cy:(Builtin.firstCells te.size n xv).run P w=.ok vs.toArray w) (kJ:fe+n<=lJ)
  {w':World} (dR:(match base with|some ad=>(storeCells (ad.add (fe*te.size)) vs).run P w|none=>.ok () w)=.ok () w') :
  (Builtin.append_ argTypes ty #[.slice base fe lJ,xv]).run P w=.ok (.slice base (fe+n) lJ) w':=by
 obtain⟨t,ht,hu⟩:=ha.t0;obtain⟨t1,yt,Hb⟩:=ha.t1;cases base with
 | none=>
  simp only at dR;cases dR;rcases Hb with⟨e',Hb⟩|Hb <;>
  simp[Builtin.append_,ht,yt,run_underlying hu,run_underlying Hb,Result.andThen,dQ.sizeOf,hlen,Cy,kJ]
 | some ad=>
  simp only at dR;rcases Hb with⟨e',Hb⟩|Hb <;>
  simp[Builtin.append_,ht,yt,run_underlying hu,run_underlying Hb,Result.andThen,dQ.sizeOf,hlen,Cy,kJ,dR]
theorem kL {argTypes : Array TypeId} {ty el : TypeId} {te : TI} (ha : vz P argTypes el) (dQ : g9 P el te) (hb : te.bytes≠0) {base : Option Addr} {fe lJ n : Nat} {xv : Value}
    (hlen : (Builtin.lenOf xv).run P w = .ok n w) (L3 : lJ<fe + n) (mR : (fe + n) * te.bytes <= 140737488355328) :
    ∃d lK, fe + n <= lK /\ lK<2^63 /\ ∀gL vs : List Value,
      ((Builtin.firstCells te.size fe (.slice base fe lJ)).run P { w with drawn := d } = .ok gL.toArray { w with drawn := d } ->
       (Builtin.firstCells te.size n xv).run P { w with drawn := d } = .ok vs.toArray { w with drawn := d } ->
       ∃rest : Array Value, rest.size = (lK-(fe + n)) * te.size /\
        (Builtin.append_ argTypes ty #[.slice base fe lJ, xv]).run P w = .ok (.slice (some ⟨w.heap.size, 0, none⟩) (fe + n) lK) { w with drawn := d, heap := w.heap.push (.cells (gL.toArray++vs.toArray++rest) el) }) := by
  obtain⟨t, ht, hu⟩ := ha.t0;obtain⟨t1, yt, Hb⟩ := ha.t1;obtain⟨i, i1, i2, i3⟩ := dQ.typeInfo w;have hn : fe + n<2^63 := by
    have := Nat.mul_le_mul_left (fe + n) (show 1 <= te.bytes by omega);omega
  have Um := growslice_fits L3 mR
  let tape := w.tape w.drawn (.appendCap (fe + n) lJ el)
  refine⟨w.drawn + 1, (fe + n) + tape%(2^63-(fe + n)), by omega, ?_, fun gL vs h1 h2=> ?_⟩
  · have := Nat.mod_lt tape (show 0<2^63-(fe + n) by omega)
    omega
  · obtain⟨z, z1, z2, _⟩ := dQ.zeroValue { w with drawn := w.drawn + 1 } (fun _ _=> False)
    refine⟨Builtin.zeroCells z.cells ((fe + n) + tape%(2^63-(fe + n))-(fe + n)), by simp[Builtin.zeroCells, z2], ?_⟩;have hi : (typeInfo el).run P { w with drawn := w.drawn + 1 } = .ok i { w with drawn := w.drawn + 1 } := by
      obtain⟨i', j1, _⟩ := dQ.info;simp only[Go.typeInfo, Sem.run_bind, run_program, Result.andThen, j1, Sem.run_pure]at i1 ⊢;cases i1;rfl
    have ZJ : ¬((IntKind.i64.max<((fe + n : Nat) : Int)) /\ te.bytes = 0) := fun hx=> hb hx.2
    rcases Hb with⟨e', Hb⟩|Hb
    all_goals
      simp only[Builtin.append_, ht, yt, run_underlying hu, run_underlying Hb, Sem.run_bind, Sem.run_pure, Result.andThen, dQ.sizeOf, hlen, List.getElem?_toArray, List.getElem?_cons_zero, List.getElem?_cons_succ, Bool.false_eq_true, if_false, Sem.run_ite];rw[if_neg (by omega)];simp only[i1, i2, Result.andThen, Sem.run_bind, Sem.run_pure, Sem.run_ite, false_or];rw[if_neg (by simpa using ZJ), if_neg (by omega)]
      simp only[run_choose, Question.forced, Question.cut, Bool.false_eq_true, if_false, run_askRoom, hi, h1, h2, z1, newRow, run_newObj, Sem.run_bind, Sem.run_pure, Result.andThen, Bool.not_false, if_true];rfl
end
section
variable {P:Program} {C:eA} {K:Ctx} {β:Nat->Option bZ} {S:Place} {st:St} {a:Act} {w:World} {slot:Nat} {e:cR} {o:Oper}
theorem Sat.kill (h:Sat K β S st a w) (b:Nat):Sat K β S ⟨st.tmps,st.heap.set b none⟩ a w:=by
 refine h.step (Wr:=fun _ _=>False) (fun b'=>b'=b) (fp.refl _ _) (fun _ _ hx=>hx.elim) (fun _ _ hx=>hx) (fun b' R' bQ=>by simpa using h.top b' R' bQ) (fun _ _ hx=>hx) (fun _ _ hx=>.inl hx) (fun b' ao hD bQ=>?_) (fun b' ao hD bQ=>?_)
 ·rw[tu hD]at bQ;exact bQ
 ·subst hD
  have bJ:=tj bQ;rw[An (by simpa using bJ)]at bQ;cases bQ
theorem Sat.grow (h:Sat K β S st a w) {b off sz:Nat} {rows new:List (List Tree)} {fz:Bool} {R:bZ} (hb:look st.heap b=some (.rows sz rows true fz)) (hR:β b=some R) (hs:slot<st.heap.length) (hf:β slot=none)
  (ZK:off<=rows.length) (kJ:rows.length+new.length<=R.cap) (dY:∀r∈new,r.length=sz) (hlen:rows.length-off+new.length<2^60) {vs:List Value} (Cr:Flat S w new sz vs) :
  ∃β' S',(∀b',b'≠slot->β' b'=β b')/\Sat K β' S' ⟨st.tmps,(st.heap.set b none).set slot (some (.rows sz (rows.drop off++new) true fz))⟩ a (w.setCells R.cb (R.co+rows.length*R.ah) vs) /\
   β' slot=some ⟨R.cb,R.co+off*R.ah,R.ah,R.cap-off⟩/\(∀c o,S c o->S' c o):=by
 have wh:b≠slot:=by rintro rfl;rw[hR]at hf;cases hf
 obtain⟨R0,Ec,⟨h0,h1,h2,h3,XI,h4,h5,h6⟩,hx,GH⟩:=h.ao b _ hb;rw[hR]at Ec;cases Ec;subst h0;simp only[if_true]at h4
 let R':bZ:=⟨R.cb,R.co+off*R.ah,R.ah,R.cap-off⟩
 let β':Nat->Option bZ:=fun b'=>if b'=slot then some R' else β b'
 let S':Place:=fun c o=>S c o∨(fz=true/\c=R.cb/\R'.co<=o/\o<R'.co+(rows.drop off++new).length*R.ah)
 have Am:∀c o,S c o->S' c o:=fun _ _ hx=>.inl hx
 have fx:(rows.drop off++new).length=rows.length-off+new.length:=by simp
 have X7:vs.length=new.length*R.ah:=Cr.1;have Ak:(rows.length+new.length)*R.ah<=R.cap*R.ah:=Nat.mul_le_mul_right _ kJ;have aeE:(rows.length+new.length)*R.ah=rows.length*R.ah+new.length*R.ah:=Nat.add_mul _ _ _;have JK:off*R.ah<=rows.length*R.ah:=Nat.mul_le_mul_right _ ZK;have hm3:(rows.drop off++new).length*R.ah+off*R.ah=rows.length*R.ah+new.length*R.ah:=by
  rw[<-Nat.add_mul,<-Nat.add_mul];congr 1;omega
 have hm4:(R.cap-off)*R.ah+off*R.ah=R.cap*R.ah:=by rw[<-Nat.add_mul];congr 1;omega
 have jc:∀j,j<vs.length->(aA.rows R.ah rows true fz).wr R R.cb (R.co+rows.length*R.ah+j):=fun j hj=>⟨rfl,by split<;>omega,by simp only[if_true];omega⟩
 have hex:∀j,j<vs.length->(w.cell? ⟨R.cb,R.co+rows.length*R.ah+j,none⟩).isSome=true:=fun j hj=>(h4 _ (by omega) (by omega)).1
 have Ao:=h.eC hb hR jc;have JO:∀b' R1,β b'=some R1->β' b'=some R1:=fun b' R1 bQ=>by
  have:b'≠slot:=by rintro rfl;rw[hf]at bQ;cases bQ
  simp only[β',if_neg this];exact bQ
 have nj:∀b',b'≠slot->b'≠b->look ((st.heap.set b none).set slot (some (.rows R.ah (rows.drop off++new) true fz))) b'=look st.heap b':=fun b' e1 e2=>by
  rw[tu e1,tu e2]
 have wm:look ((st.heap.set b none).set slot (some (.rows R.ah (rows.drop off++new) true fz))) b=none:=by
  rw[tu wh,An (tj hb)]
 have Hc:∀c o,(c=R.cb/\R.co+rows.length*R.ah<=o/\o<R.co+rows.length*R.ah+vs.length)->(aA.rows R.ah rows true fz).wr R c o:=by
  rintro c o ⟨rfl,e1,e2⟩
  have:=jc (o-(R.co+rows.length*R.ah)) (by omega);rwa[show R.co+rows.length*R.ah+(o-(R.co+rows.length*R.ah))=o by omega]at this
 refine⟨β',S',fun b' bQ=>if_neg bQ,?_,by simp[β',R'],Am⟩;refine h.step (fun b'=>b'=b∨b'=slot) (iI R.cb vs _ w) (fun c o hc bJ=>⟨GH c o (Hc c o hc),(hx c o (aA.fL (Hc c o hc))).2,fun b' ao R1 hD bQ Lt hy=>?_⟩) JO (fun b' R1 bQ=>?_) Am (fun c o sW=>?_) (fun b' ao hD bQ=>?_) (fun b' ao hD bQ=>?_)
 ·exact h.mK b b' _ ao R R1 (fun e=>hD (.inl e.symm)) hb bQ hR Lt c o (aA.fL (Hc c o hc)) hy
 ·simp only[List.length_set]
  by_cases Sc:b'=slot
  ·omega
  ·simp only[β',if_neg Sc]at bQ;exact h.top b' R1 bQ
 ·rcases sW with sW|⟨_,rfl,e1,e2⟩
  ·exact .inl sW
  ·have Vn:(aA.rows R.ah rows true fz).ext R R.cb o:=⟨rfl,by simp only[R']at e1;omega,by simp only[R',if_true]at e1 e2 ⊢;omega⟩
   refine .inr ⟨by rw[Vl];exact(hx _ _ Vn).1,(hx _ _ Vn).2,fun b' ao R1 hD bQ Lt hy=>?_⟩;exact h.mK b b' _ ao R R1 (fun e=>hD (.inl e.symm)) hb bQ hR Lt _ o Vn (aA.fL hy)
 ·rw[nj b' (fun e=>hD (.inr e)) (fun e=>hD (.inl e))]at bQ;exact bQ
 ·rcases hD with rfl|rfl
  ·rw[wm]at bQ;cases bQ
  ·rw[An (by simpa using hs)]at bQ;cases bQ
   have CB:∀c o,(aA.rows R.ah (rows.drop off++new) true fz).ext R' c o->(aA.rows R.ah rows true fz).ext R c o:=by
    rintro c o ⟨rfl,e1,e2⟩
    simp only[R',if_true]at e1 e2;exact⟨rfl,by omega,by simp only[if_true];omega⟩
   refine⟨R',by simp[β'],⟨rfl,fun r hr=>?_,by simp only[R'];omega,by simp only[R'];omega,by omega,?_,fun i j t ht=>?_,fun GI o e1 e2=>.inr ⟨GI,rfl,e1,e2⟩⟩,fun c o hy=>?_,fun c o hy sW=>?_,fun Ex iU wi dh jn mQ c o hy hz=>?_⟩
   ·rcases List.mem_append.1 hr with hr|hr
    ·exact h1 r (List.mem_of_mem_drop hr)
    ·exact dY r hr
   ·intro o e1 e2
    simp only[R',if_true]at e1 e2;exact Ul h4 hex o (by omega) (by omega)
   ·rcases wk ht with⟨hi,ht⟩|⟨hi,ht⟩
    ·have mX:fo rows (off+i) j=some t:=by
      unfold fo at ht ⊢;rw[List.getElem?_drop]at ht;exact ht
     obtain⟨v,e1,e2⟩:=h5 _ _ _ mX;obtain⟨_,_,bJ⟩:=im h1 mX;refine⟨v,?_,e2.mono Am Ao⟩;rw[Nat.add_mul]at e1 bJ;simp only[R'];rw[Sb (by omega),show R.co+off*R.ah+i*R.ah+j=R.co+(off*R.ah+i*R.ah)+j by omega];exact e1
    ·obtain⟨v,e1,e2⟩:=Cr.2 _ _ _ ht
     obtain⟨_,_,bJ⟩:=im dY ht;refine⟨v,?_,e2.mono Am Ao⟩;rw[List.length_drop]at hi e1 bJ;have hii:i*R.ah+off*R.ah=rows.length*R.ah+(i-(rows.length-off))*R.ah:=by
      rw[<-Nat.add_mul,<-Nat.add_mul];congr 1;omega
     simp only[R'];rw[gG hex (by omega) (by omega) (v:=v)];rw[show R.co+off*R.ah+i*R.ah+j-(R.co+rows.length*R.ah)=(i-(rows.length-off))*R.ah+j by omega];exact e1
   ·rw[Vl];exact hx c o (CB c o hy)
   ·obtain⟨rfl,e1,e2⟩:=hy
    simp only[R',if_true]at e1 e2;rcases sW with sW|⟨e3,_,_,e5⟩
    ·refine GH _ o ⟨rfl,?_,by simp only[if_true];omega⟩ sW
     cases fz
     ·simp at e1 ⊢;omega
     ·simp only[if_true]at e1 ⊢;omega
    ·rw[if_pos e3]at e1
     simp only[R']at e5;omega
   ·by_cases Cz:Ex=b
    ·subst Cz;rw[wm]at jn;cases jn
    ·rw[nj Ex dh Cz]at jn
     have QQ:β Ex=some wi:=by simp only[β',if_neg dh]at mQ;exact mQ
     exact h.mK b Ex _ iU R wi (Ne.symm Cz) hb jn hR QQ c o (CB c o hy) hz
end
section
variable {P:Program} {C:eA} {K:Ctx} {β:Nat->Option bZ} {S:Place} {st:St} {a:Act} {w:World} {slot:Nat} {e:cR} {o:Oper}
theorem Sat.wq (h:Sat K β S st a w) (hs:slot<st.heap.length) (hf:β slot=none) {w':World} {cells:Array Value} {el:TypeId} {cs:List Cell}
  (hh:w'.heap=w.heap.push (.cells cells el (0,0))) (LZ:w'.os=w.os) (we:w'.tape=w.tape) (G9:w'.output=w.output) (hl:cs.length<=cells.size) (Ha:cells.size<2^63)
  (hc:∀(j:Nat) (c:Cell),cs[j]?=some c->∃v,cells[j]?=some v/\dv β S w c v) :
  ∃β',(∀b,b≠slot->β' b=β b)/\Sat K β' S ⟨st.tmps,st.heap.set slot (some (.var cs))⟩ a w'/\aI β' S w' (.c (.sl slot 0 cs.length false)) (.slice (some ⟨w.heap.size,0,none⟩) cs.length cells.size):=by
 let R:bZ:=⟨w.heap.size,0,1,cells.size⟩
 have IG:∀c v,dv β S w c v->dv (fun b=>if b=slot then some R else β b) S w' c v:=fun c v hr=>
  hr.mono (fun b R' hb=>by rw[if_neg (by rintro rfl;rw[hf]at hb;cases hb)];exact hb) (fun _ _ hx=>hx) (fun b o hb=>wj hh (h.sT b o hb) o)
 refine⟨fun b=>if b=slot then some R else β b,fun b hb=>if_neg hb,?_,?_⟩
 ·refine h.new hs hf (R:=R) hh LZ we G9 rfl (fun _ _ hx=>hx) (fun _ _ hx=>.inl hx) ⟨⟨fun o h1 h2=>?_,rfl,Ha⟩,fun j c hj=>?_⟩ fun c o hx hy=>?_
  ·obtain⟨e1,e2⟩:=jy hh o
   refine⟨?_,e2⟩;rw[e1,Array.getElem?_eq_getElem (by have IH:o<0+max cs.length cells.size:=h2;omega)];rfl
  ·obtain⟨v,e1,e2⟩:=hc j c hj
   refine⟨v,?_,IG c v e2⟩;rw[show R.co+j=j from Nat.zero_add j,(jy hh j).1,e1]
  ·have e1:c=w.heap.size:=hx.1
   have:=h.sT c o hy;omega
 ·exact .c (.sl R _ cells.size (by simp) (by simp) (by simp[R]) hl (by simp[R]) fun _=>by simp[R])
theorem Sat.JT (h:Sat K β S st a w) {b:Nat} {cs ns:List Cell} {R:bZ} (hb:look st.heap b=some (.var cs)) (hR:β b=some R) (hs:slot<st.heap.length) (hf:β slot=none)
  (kJ:cs.length+ns.length<=R.cap) {vs:List Value} (X7:vs.length=ns.length) (hv:∀(j:Nat) (c:Cell),ns[j]?=some c->∃v,vs[j]?=some v/\dv β S w c v) :
  ∃β',(∀b',b'≠slot->β' b'=β b')/\Sat K β' S ⟨st.tmps,(st.heap.set b none).set slot (some (.var (cs++ns)))⟩ a (w.setCells R.cb (R.co+cs.length) vs)/\β' slot=some R:=by
 have wh:b≠slot:=by rintro rfl;rw[hR]at hf;cases hf
 obtain⟨R0,Ec,⟨⟨h0,h1,h2⟩,h3⟩,hx,GH⟩:=h.ao b _ hb;rw[hR]at Ec;cases Ec
 let β':Nat->Option bZ:=fun b'=>if b'=slot then some R else β b'
 have fx:(cs++ns).length=cs.length+ns.length:=by simp
 have CB:∀c o,(aA.var (cs++ns)).ext R c o->(aA.var cs).ext R c o:=by
  rintro c o ⟨rfl,e1,e2⟩
  have e2:o<R.co+max (cs++ns).length R.cap:=e2;rw[fx]at e2;exact⟨rfl,e1,by show o<R.co+max cs.length R.cap;omega⟩
 have jc:∀j,j<vs.length->(aA.var cs).wr R R.cb (R.co+cs.length+j):=fun j hj=>⟨rfl,by omega,by show R.co+cs.length+j<R.co+max cs.length R.cap;omega⟩
 have hex:∀j,j<vs.length->(w.cell? ⟨R.cb,R.co+cs.length+j,none⟩).isSome=true:=fun j hj=>(h0 _ (by omega) (by omega)).1
 have Ao:=h.eC hb hR jc;have JO:∀b' R1,β b'=some R1->β' b'=some R1:=fun b' R1 bQ=>by
  have:b'≠slot:=by rintro rfl;rw[hf]at bQ;cases bQ
  simp only[β',if_neg this];exact bQ
 have nj:∀b',b'≠slot->b'≠b->look ((st.heap.set b none).set slot (some (.var (cs++ns)))) b'=look st.heap b':=fun b' e1 e2=>by
  rw[tu e1,tu e2]
 have wm:look ((st.heap.set b none).set slot (some (.var (cs++ns)))) b=none:=by
  rw[tu wh,An (tj hb)]
 have Hc:∀c o,(c=R.cb/\R.co+cs.length<=o/\o<R.co+cs.length+vs.length)->(aA.var cs).wr R c o:=by
  rintro c o ⟨rfl,e1,e2⟩
  have:=jc (o-(R.co+cs.length)) (by omega);rwa[show R.co+cs.length+(o-(R.co+cs.length))=o by omega]at this
 refine⟨β',fun b' bQ=>if_neg bQ,?_,by simp[β']⟩;refine h.step (fun b'=>b'=b∨b'=slot) (iI R.cb vs _ w) (fun c o hc bJ=>⟨GH c o (Hc c o hc),(hx c o (aA.fL (Hc c o hc))).2,fun b' ao R1 hD bQ Lt hy=>?_⟩) JO (fun b' R1 bQ=>?_) (fun _ _ hx=>hx) (fun _ _ hx=>.inl hx) (fun b' ao hD bQ=>?_) (fun b' ao hD bQ=>?_)
 ·exact h.mK b b' _ ao R R1 (fun e=>hD (.inl e.symm)) hb bQ hR Lt c o (aA.fL (Hc c o hc)) hy
 ·simp only[List.length_set]
  by_cases Sc:b'=slot
  ·omega
  ·simp only[β',if_neg Sc]at bQ;exact h.top b' R1 bQ
 ·rw[nj b' (fun e=>hD (.inr e)) (fun e=>hD (.inl e))]at bQ;exact bQ
 ·rcases hD with rfl|rfl
  ·rw[wm]at bQ;cases bQ
  ·rw[An (by simpa using hs)]at bQ;cases bQ
   refine⟨R,by simp[β'],⟨⟨fun o e1 e2=>?_,h1,h2⟩,fun j c hj=>?_⟩,fun c o hy=>?_,fun c o hy sW=>?_,fun Ex iU wi dh jn mQ c o hy hz=>?_⟩
   ·rw[fx]at e2
    exact Ul h0 hex o (by omega) (by omega)
   ·rw[List.getElem?_append]at hj
    split at hj
    ·obtain⟨v,e1,e2⟩:=h3 j c hj
     exact⟨v,by rw[Sb (by omega)];exact e1,e2.mono JO (fun _ _ hx=>hx) Ao⟩
    ·obtain⟨v,e1,e2⟩:=hv _ c hj
     have bJ:=uz e1;exact⟨v,by rw[gG hex (by omega) (by omega) (v:=v)];rw[show R.co+j-(R.co+cs.length)=j-cs.length by omega];exact e1,e2.mono JO (fun _ _ hx=>hx) Ao⟩
   ·rw[Vl];exact hx c o (CB c o hy)
   ·exact GH c o (CB c o hy) sW
   ·by_cases Cz:Ex=b
    ·subst Cz;rw[wm]at jn;cases jn
    ·rw[nj Ex dh Cz]at jn
     have QQ:β Ex=some wi:=by simp only[β',if_neg dh]at mQ;exact mQ
     exact h.mK b Ex _ iU R wi (Ne.symm Cz) hb jn hR QQ c o (CB c o hy) hz
theorem pW {w:World} {cb co:Nat}:∀(ns:List Cell) (i:Nat),(∀(j:Nat) (c:Cell),ns[j]?=some c->∃v,w.cell? ⟨cb,co+(i+j),none⟩=some v/\dv β S w c v) ->
  ∃vs:List Value,vs.length=ns.length/\∀(j:Nat) (c:Cell),ns[j]?=some c->∃v,vs[j]?=some v/\w.cell? ⟨cb,co+(i+j),none⟩=some v/\dv β S w c v
 | [],i,_=>⟨[],rfl,fun j c h=>by simp at h⟩
 | n::ns,i,h=>by
  obtain⟨v,h1,h2⟩:=h 0 n rfl;obtain⟨vs,e1,e2⟩:=pW ns (i+1) fun j c hj=>by
   rw[show co+(i+1+j)=co+(i+(j+1)) by omega];exact h (j+1) c hj
  refine⟨v::vs,by simp[e1],fun j c hj=>?_⟩;cases j with
  | zero=>simp at hj;subst hj;exact⟨v,rfl,h1,h2⟩
  | succ j=>
   obtain⟨u,q1,q2,q3⟩:=e2 j c (by simpa using hj);exact⟨u,by simpa using q1,by rw[show co+(i+(j+1))=co+(i+1+j) by omega];exact q2,q3⟩
theorem uD {ti:TI} {slot:Nat} {h:Hp} {s x:AV} {e:cR} (he:kl ti slot h s x=some e):rowsOf h x=none:=by
 unfold kl at he;split at he
 ·rename_i b off len b' LM LO GD
  split at he
  ·rename_i cs ns hb bQ
   simp[rowsOf,bQ]
  ·cases he
 ·cases he
theorem Sd (hC:bC P C) (h:Sat K β S st a w) (hs:slot<st.heap.length) (hf:β slot=none) {args:Array Operand} {argTypes:Array TypeId} {el:TypeId} {te:TI} {s x:Operand}
  (ho:o.op=.call { callee:=.builtin .append,args,argTypes }) (dM:args.toList=[s,x]) (QR:vz P argTypes el) (dx:C.ty el=some te) (hb:te.bytes≠0)
  (he:kl te slot (look st.heap) (st.get s) (st.get x)=some e):oS P K β S st a w slot o e:=by
 have dQ:=jh (hC _ te dx);have Lu:args=#[s,x]:=by rw[<-Array.toArray_toList (xs:=args),dM]
 subst Lu;have uE:=h.get s;have L4:=h.get x;have di:∀v w',(Builtin.append_ argTypes o.type #[a.eval s,a.eval x]).run P w=.ok v w'->(execOp a.eval o).run P w=.ok (.value v) w':=by
  intro v w' hv;simp only[execOp,ho,resolve,invoke,builtin,Sem.run_bind,Sem.run_pure,Result.andThen,List.map_toArray,List.map_cons,List.map_nil,hv]
 unfold kl at he;split at he
 ·rename_i b off len b' LM LO GD hg hg'
  split at he
  ·rename_i cs ns g8 ZL
   split at he
   ·rename_i Ap
    obtain⟨rfl,rfl,rfl,rfl,ng,dY,mR⟩:=Ap;cases he;rw[hg]at uE;rw[hg']at L4;cases uE with|c uE=>
    cases L4 with|c L4=>
    generalize eL:a.eval s=av at uE;generalize XX:a.eval x=ax at L4;cases uE with|sl R base cap hR h1 h2 h3 h4 h5=>
    cases L4 with|sl R2 II O4 mY g1 g2 g3 g4 g5=>
    have L5:=h2 rfl;rw[Nat.zero_add]at L5;obtain⟨R0,q1,⟨⟨q2,q3,q4⟩,q5⟩,q6,q7⟩:=h.ao b _ g8;rw[hR]at q1;cases q1;obtain⟨R0,p1,⟨⟨p2,p3,p4⟩,p5⟩,p6,p7⟩:=h.ao b' _ ZL;rw[mY]at p1;cases p1;have Se:=g5 (by omega);obtain⟨nv,n1,n2⟩:=pW (β:=β) (S:=S) (cb:=R2.cb) (co:=R2.co) ns 0 fun j c hj=>by rw[Nat.zero_add];exact p5 j c hj
    obtain⟨ov,o1,o2⟩:=pW (β:=β) (S:=S) (cb:=R.cb) (co:=R.co) cs 0 fun j c hj=>by rw[Nat.zero_add];exact q5 j c hj
    have hld:∀d,(Builtin.firstCells te.size ns.length (.slice II ns.length O4)).run P { w with drawn:=d }=.ok nv.toArray { w with drawn:=d }:=fun d=>by
     rw[Se];have:=run_loadCells_list (P:=P) { w with drawn:=d } ⟨R2.cb,R2.co+0*R2.ah,none⟩ nv fun j v hj=>by
      have bJ:=uz hj;obtain⟨u,k1,k2,_⟩:=n2 j (ns[j]'(by omega)) (List.getElem?_eq_getElem (by omega));rw[hj]at k1;cases k1;rw[IE,Nat.zero_mul,Nat.add_zero];rw[Nat.zero_add]at k2;exact k2
     rw[n1]at this;simpa[Builtin.firstCells,dY]using this
    have ZM:∀d,(Builtin.firstCells te.size cs.length (.slice base cs.length cap)).run P { w with drawn:=d }=.ok ov.toArray { w with drawn:=d }:=fun d=>by
     rcases Nat.eq_zero_or_pos cs.length with h0|h0
     ·have:ov=[]:=List.eq_nil_of_length_eq_zero (by omega)
      subst this;rw[h0];cases base<;>simp[Builtin.firstCells,loadCells,loadCellsFrom]
     ·rw[h5 (by omega)]
      have:=run_loadCells_list (P:=P) { w with drawn:=d } ⟨R.cb,R.co+0*R.ah,none⟩ ov fun j v hj=>by
       have bJ:=uz hj;obtain⟨u,k1,k2,_⟩:=o2 j (cs[j]'(by omega)) (List.getElem?_eq_getElem (by omega));rw[hj]at k1;cases k1;rw[IE,Nat.zero_mul,Nat.add_zero];rw[Nat.zero_add]at k2;exact k2
      rw[o1]at this;simpa[Builtin.firstCells,dY]using this
    have hlen:(Builtin.lenOf (.slice II ns.length O4)).run P w=.ok ns.length w:=by simp[Builtin.lenOf]
    have mZ:(cs.length+ns.length)*1<=(cs.length+ns.length)*te.bytes:=Nat.mul_le_mul_left _ (by omega);unfold au at mR
    by_cases kJ:cs.length+ns.length<=cap
    ·obtain⟨β',f1,f2,f3⟩:=h.JT (ns:=ns) (vs:=nv) g8 hR hs hf (by omega) n1 fun j c hj=>by
      obtain⟨u,k1,_,k3⟩:=n2 j c hj;exact⟨u,k1,k3⟩
     have dR:(storeCells ⟨R.cb,R.co+cs.length,none⟩ nv).run P w=.ok () (w.setCells R.cb (R.co+cs.length) nv):=by
      have:=run_storeCells_cells (P:=P) R.cb (R.co+cs.length) nv 0 w (fun j hj=>(q2 _ (by omega) (by omega)).1) (fun j hj=>(q2 _ (by omega) (by omega)).2) (fun u hu=>by
       obtain⟨k,hk⟩:=List.getElem?_of_mem hu;have tw:=uz hk;obtain⟨u',k1,_,k3⟩:=n2 k (ns[k]'(by omega)) (List.getElem?_eq_getElem (by omega));rw[hk]at k1;cases k1;exact iQ k3.one)
      simpa using this
     have Aq:=h5 (by omega);have EB:(⟨R.cb,R.co+0*R.ah,none⟩:Addr).add (cs.length*te.size)=⟨R.cb,R.co+cs.length,none⟩:=by
      rw[IE,Nat.zero_mul,Nat.add_zero,dY,Nat.mul_one]
     have:=X0 (P:=P) (w:=w) (ty:=o.type) QR dQ (base:=base) (fe:=cs.length) (lJ:=cap) (xv:=.slice II ns.length O4) (n:=ns.length) (vs:=nv) hlen (hld w.drawn) kJ (w':=w.setCells R.cb (R.co+cs.length) nv) (by rw[Aq];simp only[EB];exact dR);rw[<-eL,<-XX]at this;exact⟨_,β',S,_,_,di _ _ this,.inl rfl,f1,f2,.c (.sl R base cap f3 (by simp) (fun _=>by omega) kJ (by omega) h5)⟩
    ·obtain⟨d,lK,c1,c2,c3⟩:=kL (P:=P) (w:=w) (ty:=o.type) QR dQ hb (base:=base) (fe:=cs.length) (lJ:=cap) (xv:=.slice II ns.length O4) (n:=ns.length) hlen (by omega) (by omega)
     obtain⟨rest,r1,r2⟩:=c3 ov nv (ZM d) (hld d);have pP:(ov.toArray++nv.toArray++rest).size=lK:=by
      simp only[Array.size_append,List.size_toArray,r1,dY,Nat.mul_one];omega
     obtain⟨β',f1,f2,f3⟩:=(h.kill b).wq (slot:=slot) (by simpa using hs) hf (w':={ w with drawn:=d,heap:=w.heap.push (.cells (ov.toArray++nv.toArray++rest) el) }) (cells:=ov.toArray++nv.toArray++rest) (el:=el) (cs:=cs++ns) rfl rfl rfl rfl (by rw[pP];simp;omega) (by omega) fun j c hj=>by
      have bJ:=uz hj;simp only[List.length_append]at bJ;rw[List.getElem?_append]at hj;have e1:(ov.toArray++nv.toArray++rest)[j]?=(ov++nv)[j]?:=by
       rw[Array.getElem?_append_left (by simp;omega)];simp
      rw[e1,List.getElem?_append];split at hj
      ·obtain⟨u,k1,_,k3⟩:=o2 j c hj
       rw[if_pos (by omega)];exact⟨u,k1,k3⟩
      ·obtain⟨u,k1,_,k3⟩:=n2 _ c hj
       rw[if_neg (by omega),o1];exact⟨u,k1,k3⟩
     rw[pP]at f3;simp only[List.length_append]at f3;rw[<-eL,<-XX]at r2;exact⟨_,β',S,_,_,di _ _ r2,.inl rfl,f1,f2,f3⟩
   ·cases he
  ·cases he
 ·cases he
end
section
variable {P:Program} {C:eA} {K:Ctx} {β:Nat->Option bZ} {S:Place} {st:St} {a:Act} {w:World} {slot:Nat} {e:cR} {o:Oper}
theorem wv {rows:List (List Tree)} {n:Nat} (h:(rows.all fun r=>r.length==n)=true):∀r∈rows,r.length=n:=fun r hr=>by simpa using List.all_eq_true.1 h r hr
theorem Hd {x:AV} {v:Value} (hx:aI β S w x v) (h:GY x=true):∃base len cap,v=.slice base len cap/\len<=cap:=by
 unfold GY at h;split at h
 ·cases hx with|c hx=>cases hx with|t hx=>cases hx with|aa _ _ _ _ _ _ _ _ h1=>exact⟨_,_,_,rfl,h1⟩
 ·cases hx with|c hx=>cases hx with|sl _ _ _ _ _ _ h3=>exact⟨_,_,_,rfl,h3⟩
 ·cases h
theorem Flat.head {rows:List (List Tree)} {size:Nat} {vs rest:List Value} (h:Flat S w rows size vs):Flat S w rows size ((vs++rest).take (rows.length*size)):=by
 rw[<-h.1,List.take_left];exact h
theorem eH.L6 {B:Nat} {R:bZ} {sz:Nat} {rows:List (List Tree)} {g:Bool} (h:eH β S w B R (.rows sz rows g true)):dX S w (.aa false rows) (.slice (some ⟨R.cb,R.co,none⟩) rows.length R.cap):=by
 obtain⟨q0,q1,q2,q3,R9,q4,q5,q6⟩:=h;have:∃val:Nat->Nat->Value,∀i j t,fo rows i j=some t->w.cell? ⟨R.cb,R.co+i*R.ah+j,none⟩=some (val i j)/\dX S w t (val i j):=by
  have:∀i j,∃v,∀t,fo rows i j=some t->w.cell? ⟨R.cb,R.co+i*R.ah+j,none⟩=some v/\dX S w t v:=by
   intro i j;cases ht:fo rows i j with
   | none=>exact⟨undef,by simp⟩
   | some t=>
    obtain⟨v,a1,a2⟩:=q5 _ _ _ ht;exact⟨v,fun t' mX=>by cases mX;exact⟨a1,a2⟩⟩
  exact⟨fun i j=>(this i j).choose,fun i j t ht=>(this i j).choose_spec t ht⟩
 obtain⟨val,pU⟩:=this;refine .aa false rows _ R.cb R.co R.ah R.cap val q2 q3 (by omega) (by simp) (fun _=>rfl) (by simp) q1 (fun i j t ht=>?_) (fun i j t ht=>(pU i j t ht).2);obtain⟨_,_,bJ⟩:=im q1 ht;exact⟨q6 rfl _ (by omega) (by omega),(pU i j t ht).1⟩
theorem Sat.Sf (h:Sat K β S st a w) {b sz:Nat} {rows:List (List Tree)} {R:bZ} (bJ:b<st.heap.length) (hR:β b=some R) (je:eH β S w K.B0 R (.gL sz rows)):Sat K β S ⟨st.tmps,st.heap.set b (some (.gL sz rows))⟩ a w:=by
 refine h.step (Wr:=fun _ _=>False) (fun b'=>b'=b) (fp.refl _ _) (fun _ _ hx=>hx.elim) (fun _ _ hx=>hx) (fun b' R' bQ=>by simpa using h.top b' R' bQ) (fun _ _ hx=>hx) (fun _ _ hx=>.inl hx) (fun b' ao hD bQ=>?_) (fun b' ao hD bQ=>?_)
 ·rw[tu hD]at bQ;exact bQ
 ·subst hD
  rw[An bJ]at bQ;cases bQ;exact⟨R,hR,je,fun c o hx=>hx.2.elim,fun c o hx=>hx.2.elim,fun _ _ _ _ _ _ c o hx=>hx.2.elim⟩
theorem Sat.leave {hp:bU} {tm:List AV} {b sz:Nat} {rows:List (List Tree)} {fz:Bool} {x:Option aA} {R:bZ} (h:Sat K β S ⟨tm,(hp.set b none).set slot x⟩ a w) (wh:b≠slot) (bJ:b<hp.length) (hR:β b=some R)
  (je:fz=true->eH β S w K.B0 R (.gL sz rows)):Sat K β S ⟨tm,(hp.set b (El sz rows fz)).set slot x⟩ a w:=by
 cases fz with
 | false=>exact h
 | true=>
  have:=h.Sf (b:=b) (by simpa using bJ) hR (je rfl);have e:((hp.set b none).set slot x).set b (some (.gL sz rows))=(hp.set b (El sz rows true)).set slot x:=by
   rw[List.set_comm _ _ (Ne.symm wh),List.set_set];rfl
  rw[e]at this;exact this
theorem EC (hC:bC P C) (h:Sat K β S st a w) (hs:slot<st.heap.length) (hf:β slot=none) {args:Array Operand} {argTypes:Array TypeId} {el:TypeId} {te:TI} {s x:Operand}
  (ho:o.op=.call { callee:=.builtin .append,args,argTypes }) (dM:args.toList=[s,x]) (QR:vz P argTypes el) (dx:C.ty el=some te) (hb:te.bytes≠0)
  (he:cN te slot (look st.heap) (st.get s) (st.get x)=some e):oS P K β S st a w slot o e:=by
 have dQ:=jh (hC _ te dx);have Lu:args=#[s,x]:=by rw[<-Array.toArray_toList (xs:=args),dM]
 subst Lu;have uE:=h.get s;have L4:=h.get x;have di:∀v w',(Builtin.append_ argTypes o.type #[a.eval s,a.eval x]).run P w=.ok v w'->(execOp a.eval o).run P w=.ok (.value v) w':=by
  intro v w' hv;simp only[execOp,ho,resolve,invoke,builtin,Sem.run_bind,Sem.run_pure,Result.andThen,List.map_toArray,List.map_cons,List.map_nil,hv]
 unfold cN at he;split at he
 ·exact Sd hC h hs hf ho dM QR dx hb he
 ·rename_i new oR jO
  split at he
  ·rename_i JH
   split at he
   ·rename_i RX
    cases he;obtain⟨base,len,cap,Vo,hle⟩:=Hd uE RX;have ZN:new=[]:=List.eq_nil_of_length_eq_zero JH;subst ZN;obtain⟨h1,h2⟩:=iq (P:=P) h L4 jO (size:=te.size) (by simp);obtain⟨vs,h3,h4,_⟩:=h2 0 (by simp);have OP:vs=[]:=List.eq_nil_of_length_eq_zero (by simpa using h4);subst OP;have:=X0 (P:=P) (w:=w) (ty:=o.type) QR dQ (base:=base) (fe:=len) (lJ:=cap) (xv:=a.eval x) (n:=0) (vs:=[]) (by simpa using h1) h3 (by omega) (w':=w) (by cases base<;>simp[storeCells])
    rw[<-Vo]at this;refine⟨w,β,S,a.eval s,_,di _ _ this,.inl (by rw[Vo];simp),fun _ _=>rfl,h,?_⟩;exact uE
   ·cases he
  ·rename_i JH
   split at he
   ·cases he
   ·rename_i jA
    have L7:∀r∈new,r.length=te.size:=wv (by simpa using jA);obtain⟨oT,fM⟩:=iq (P:=P) h L4 jO L7;have L8:∀(base:Option Addr) (fe lJ:Nat) (gL:List (List Tree)) (rd:List Nat) (fz:Bool) (heap:bU),a.eval s=.slice base fe lJ->rowsOf (look st.heap) (st.get s)=some (gL,rd)->gL.length=fe ->
      (∀r∈gL,r.length=te.size)->lJ<fe+new.length->(fe+new.length)*te.bytes<=au->Sat K β S ⟨st.tmps,heap⟩ a w->slot<heap.length ->
      ∃w' β' S' v,(Builtin.append_ argTypes o.type #[a.eval s,a.eval x]).run P w=.ok v w'/\(∀b,b≠slot->β' b=β b)/\Sat K β' S' ⟨st.tmps,heap.set slot (some (.rows te.size (gL++new) true fz))⟩ a w'/\aI β' S' w' (.c (.sl slot 0 (fe+new.length) false)) v/\(∀x v,aI β S w x v->aI β' S' w' x v):=by
     intro base fe lJ gL rd fz heap Vo hold hol LZ L3 mR kK bJ;have mZ:(fe+new.length)*1<=(fe+new.length)*te.bytes:=Nat.mul_le_mul_left _ (by omega);unfold au at mR;obtain⟨d,lK,c1,c2,c3⟩:=kL (P:=P) (w:=w) (ty:=o.type) QR dQ hb (base:=base) (fe:=fe) (lJ:=lJ) (xv:=a.eval x) (n:=new.length) oT L3 (by omega);obtain⟨ov,o1,o2⟩:=(iq (P:=P) (h.drawn d) (uE.drawn d) hold LZ).2 gL.length (Nat.le_refl _)
     obtain⟨nv,n1,n2⟩:=(iq (P:=P) (h.drawn d) (L4.drawn d) jO L7).2 new.length (Nat.le_refl _);rw[List.take_length]at o2 n2;rw[hol,Vo]at o1;obtain⟨rest,r1,r2⟩:=c3 ov nv o1 n1;rw[<-Vo]at r2;have Cr:Flat S w (gL++new) te.size (ov++nv):=(o2.append n2 LZ).mono (fun _ _ hx=>hx) fun _ _ _=>rfl
     have dY:∀r∈gL++new,r.length=te.size:=by
      intro r hr;rcases List.mem_append.1 hr with hr|hr
      ·exact LZ r hr
      ·exact L7 r hr
     have hl:(gL++new).length=fe+new.length:=by simp[hol]
     have pP:(ov.toArray++nv.toArray++rest).size=lK*te.size:=by
      have e1:=Cr.1;rw[hl,List.length_append]at e1;simp only[Array.size_append,List.size_toArray,r1];rw[e1,<-Nat.add_mul];congr 1;omega
     obtain⟨β',S',e1,e2,e3,e4⟩:=kK.Cx (slot:=slot) bJ hf (w':={ w with drawn:=d,heap:=w.heap.push (.cells (ov.toArray++nv.toArray++rest) el) }) (el:=el) (rows:=gL++new) (size:=te.size) (cap:=lK) (g:=true) (fz:=fz) rfl rfl rfl rfl dY (by omega) c2 (by omega) pP (by
      have:(ov.toArray++nv.toArray++rest).toList=(ov++nv)++rest.toList:=by simp
      rw[this];exact Cr.head)
     rw[hl]at e3;exact⟨_,β',S',_,r2,e1,e2,e3,e4⟩
    split at he
    ·rename_i rows hg
     split at he
     ·rename_i hr
      simp only[Bool.and_eq_true,decide_eq_true_eq]at hr;cases he;rw[hg]at uE;have ZO:=uE;cases uE with|c uE=>
      cases uE with|t uE=>
      generalize eL:a.eval s=av at uE;cases uE with|aa _ _ base cb co ah cap val h1 h2 h3 h4 h5 QI h6 h7 h8=>
      obtain⟨w',β',S',v,g1,g2,g3,g4,_⟩:=L8 base rows.length cap rows [] false st.heap eL (by rw[hg];rfl) rfl (wv hr.1) (by have:=h4 rfl;omega) hr.2 h hs;exact⟨w',β',S',v,_,di _ _ g1,.inl rfl,g2,g3,g4⟩
     ·cases he
    ·rename_i b off len cp hg
     rw[hg]at uE;have ZO:=uE;cases uE with|c uE=>
     generalize eL:a.eval s=av at uE;cases uE with|sl R base cap hR h1 h2 h3 h4 h5=>
     split at he
     ·rename_i sz rows g fz g8
      split at he
      ·cases he
      ·rename_i Ap
       simp only[Decidable.not_not]at Ap;obtain⟨rfl,mR,hle⟩:=Ap;obtain⟨R',e1,⟨q0,q1,q2,q3,R9,q4,q5,q6⟩,e4,e5⟩:=h.ao b _ g8;rw[hR]at e1;cases e1;have JL:((rows.drop off).take len).length=len:=by rw[List.length_take,List.length_drop];omega
       have Vp:rowsOf (look st.heap) (st.get s)=some ((rows.drop off).take len,[b]):=by
        rw[hg];simp[rowsOf,g8,hle]
       have pP:∀r∈(rows.drop off).take len,r.length=te.size:=fun r hr=>by rw[q0];exact q1 r (ra hr)
       split at he
       ·rename_i yq
        cases he;obtain⟨w',β',S',v,g1,g2,g3,g4,_⟩:=L8 base len cap _ [b] false st.heap eL Vp JL pP (by have:=h1 yq;omega) mR h hs;exact⟨w',β',S',v,_,di _ _ g1,.inl rfl,g2,g3,g4⟩
       ·rename_i yq
        have ZP:cp=false:=by simpa using yq
        have L5:=h2 ZP;split at he
        ·rename_i eU
         have Vq:(rows.drop off).take len=rows.drop off:=by rw[List.take_of_length_le];simp;omega
         split at he
         ·rename_i hgr
          cases he;subst hgr;have Lq:=h.kill b;have wh:b≠slot:=by rintro rfl;rw[hR]at hf;cases hf
          have Ar:fz=true->dX S w (.aa false rows) (.slice (some ⟨R.cb,R.co,none⟩) rows.length R.cap):=fun GI=>by
           subst GI;exact eH.L6 (β:=β) (B:=K.B0) (sz:=te.size) (g:=true) ⟨q0,q1,q2,q3,R9,q4,q5,q6⟩
          by_cases kJ:len+new.length<=cap
          ·obtain⟨nv,n1,n2⟩:=fM new.length (Nat.le_refl _)
           rw[List.take_length]at n2;have ng:0<new.length:=by omega
           have Aq:=h5 (by omega);have mZ:(len+new.length)*1<=(len+new.length)*te.bytes:=Nat.mul_le_mul_left _ (by omega);unfold au at mR;obtain⟨β',S',g1,g2,g3,g4⟩:=h.grow (new:=new) (off:=off) g8 hR hs hf (by omega) (by omega) L7 (by
            omega) n2
           simp only[if_true]at q4;have Ak:(rows.length+new.length)*R.ah<=R.cap*R.ah:=Nat.mul_le_mul_right _ (by omega);rw[Nat.add_mul]at Ak;have fx:nv.length=new.length*R.ah:=by rw[n2.1,q0]
           have dR:(storeCells ⟨R.cb,R.co+rows.length*R.ah,none⟩ nv).run P w=.ok () (w.setCells R.cb (R.co+rows.length*R.ah) nv):=by
            have:=run_storeCells_cells (P:=P) R.cb (R.co+rows.length*R.ah) nv 0 w (fun j hj=>(q4 _ (by omega) (by omega)).1) (fun j hj=>(q4 _ (by omega) (by omega)).2) (fun u hu=>by
             obtain⟨k,hk⟩:=List.getElem?_of_mem hu;have tw:=uz hk;rw[fx]at tw;obtain⟨t,ht⟩:=Cv (size:=R.ah) (fun r hr=>by rw[<-q0];exact L7 r hr) tw;obtain⟨v,f1,f2⟩:=n2.2 _ _ _ ht;rw[q0,Nat.div_add_mod',hk]at f1;cases f1;exact iQ f2.one)
            simpa using this
           have EB:(⟨R.cb,R.co+off*R.ah,none⟩:Addr).add (len*te.size)=⟨R.cb,R.co+rows.length*R.ah,none⟩:=by
            rw[IE,q0,<-eU,Nat.add_mul,Nat.add_assoc]
           have:=X0 (P:=P) (w:=w) (ty:=o.type) QR dQ (base:=base) (fe:=len) (lJ:=cap) (xv:=a.eval x) (n:=new.length) oT n1 kJ (w':=w.setCells R.cb (R.co+rows.length*R.ah) nv) (by rw[Aq];simp only[EB];exact dR);rw[<-eL]at this;have jc:∀j,j<nv.length->(aA.rows te.size rows true fz).wr R R.cb (R.co+rows.length*R.ah+j):=fun j hj=>⟨rfl,by split<;>omega,by simp only[if_true];omega⟩
           have Ao:=h.eC g8 hR jc;refine⟨_,β',S',_,_,di _ _ this,.inl rfl,g1,g2.leave wh (tj g8) (by rw[g1 b wh];exact hR) (fun GI=>⟨q0,q1,q3,R.cap,(Ar GI).mono g4 Ao⟩),.c (.sl _ base cap g3 (by simp) (by simp;omega) kJ (by simp;omega) fun _=>?_)⟩;simp[Aq]
          ·obtain⟨w',β',S',v,g1,g2,g3,g4,g5⟩:=L8 base len cap _ [b] fz (st.heap.set b none) eL Vp JL pP (by omega) mR Lq (by simpa using hs)
           rw[Vq]at g3;refine⟨w',β',S',v,_,di _ _ g1,.inl rfl,g2,g3.leave wh (tj g8) (by rw[g2 b wh];exact hR) (fun GI=>⟨q0,q1,q3,R.cap,?_⟩),g4⟩;have hk:=g5 _ _ (.c (.t (Ar GI)));cases hk with|c hk=>
           cases hk with|t hk=>exact hk
         ·cases he
        ·rename_i eU
         split at he
         ·rename_i Un
          obtain⟨Un,rfl⟩:=Un;cases he;obtain⟨nv,n1,n2⟩:=fM new.length (Nat.le_refl _);rw[List.take_length]at n2;have ng:0<new.length:=by omega
          have Aq:=h5 (by omega);have Ak:(off+len+new.length)*R.ah<=rows.length*R.ah:=Nat.mul_le_mul_right _ Un;rw[Nat.add_mul,Nat.add_mul]at Ak;have JK:rows.length*R.ah<=(if g=true then R.cap else rows.length)*R.ah:=Nat.mul_le_mul_right _ (by split<;>omega);have fx:nv.length=new.length*R.ah:=by rw[n2.1,q0]
          have vy:∀j,j<nv.length->(w.cell? ⟨R.cb,R.co+(off+len)*R.ah+j,none⟩).isSome=true/\w.frozen? ⟨R.cb,R.co+(off+len)*R.ah+j,none⟩=false:=fun j hj=>q4 _ (by omega) (by rw[Nat.add_mul];omega)
          have dR:(storeCells ⟨R.cb,R.co+(off+len)*R.ah,none⟩ nv).run P w=.ok () (w.setCells R.cb (R.co+(off+len)*R.ah) nv):=by
           have:=run_storeCells_cells (P:=P) R.cb (R.co+(off+len)*R.ah) nv 0 w (fun j hj=>by simpa using (vy j hj).1) (fun j hj=>by simpa using (vy j hj).2) (fun u hu=>by
            obtain⟨k,hk⟩:=List.getElem?_of_mem hu;have tw:=uz hk;rw[fx]at tw;obtain⟨t,ht⟩:=Cv (size:=R.ah) (fun r hr=>by rw[<-q0];exact L7 r hr) tw;obtain⟨v,f1,f2⟩:=n2.2 _ _ _ ht;rw[q0,Nat.div_add_mod',hk]at f1;cases f1;exact iQ f2.one)
           simpa using this
          have EB:(⟨R.cb,R.co+off*R.ah,none⟩:Addr).add (len*te.size)=⟨R.cb,R.co+(off+len)*R.ah,none⟩:=by
           rw[IE,q0,Nat.add_mul,Nat.add_assoc]
          have ED:=X0 (P:=P) (w:=w) (ty:=o.type) QR dQ (base:=base) (fe:=len) (lJ:=cap) (xv:=a.eval x) (n:=new.length) oT n1 (by
           have:rows.length<=R.cap:=q2;omega) (w':=w.setCells R.cb (R.co+(off+len)*R.ah) nv) (by rw[Aq];simp only[EB];exact dR)
          rw[<-eL]at ED;have jc:∀j,j<nv.length->(aA.rows te.size rows g false).wr R R.cb (R.co+(off+len)*R.ah+j):=fun j hj=>⟨rfl,by simp;omega,by rw[Nat.add_mul];omega⟩
          have Ao:=h.eC g8 hR jc;have hlen:=RY rows new (off+len) Un;refine⟨_,β,S,_,_,di _ _ ED,.inl rfl,fun _ _=>rfl,?_,.c (.sl R base cap hR (fun hh=>absurd hh (by simp)) (fun _=>L5) (by omega) h4 h5)⟩;refine h.write g8 hR _ _ jc (fun c o hy=>by rw[aA.ext,hlen]at hy;exact hy) (fun c o hy=>by rw[aA.wr,hlen]at hy;exact hy) ⟨q0,fun r hr=>?_,by rw[hlen];exact q2,q3,by rw[hlen];exact R9,?_,fun i j t ht=>?_,by simp⟩
          ·obtain⟨k,hk⟩:=List.getElem?_of_mem hr
           rw[OV _ _ _ _ Un]at hk;split at hk
           ·rw[<-q0];exact L7 r (List.mem_of_getElem? hk)
           ·exact q1 r (List.mem_of_getElem? hk)
          ·rw[hlen];exact Ul q4 fun j hj=>(vy j hj).1
          ·obtain⟨row,f1,f2,f3,f4⟩:=jd ht
           rw[OV _ _ _ _ Un]at f1;split at f1
           ·rename_i Sh
            obtain⟨v,k1,k2⟩:=n2.2 _ _ _ (Gy f1 f2);have hj:j<R.ah:=by rw[<-q0,<-L7 row (List.mem_of_getElem? f1)];exact f4
            rw[q0]at k1;have hii:i*R.ah=(off+len)*R.ah+(i-(off+len))*R.ah:=by rw[<-Nat.add_mul];congr 1;omega
            have tw:=uz k1;exact⟨v,gG (fun j hj=>(vy j hj).1) (by omega) (by omega) (by rw[show R.co+i*R.ah+j-(R.co+(off+len)*R.ah)=(i-(off+len))*R.ah+j by omega];exact k1),k2.mono (fun _ _ hx=>hx) Ao⟩
           ·rename_i Sh
            have mX:=Gy f1 f2;obtain⟨v,k1,k2⟩:=q5 _ _ _ mX;obtain⟨_,hj,_⟩:=im q1 mX;refine⟨v,?_,k2.mono (fun _ _ hx=>hx) Ao⟩;rw[Sb]
            ·exact k1
            ·rintro⟨_,h8,h9⟩
             rcases Nat.lt_or_ge i (off+len) with Ev|Ev
             ·have:=Nat.mul_le_mul_right R.ah (show i+1<=off+len by omega)
              rw[Nat.succ_mul]at this;omega
             ·have:=Nat.mul_le_mul_right R.ah (show off+len+new.length<=i by omega)
              rw[Nat.add_mul]at this;omega
         ·cases he
     ·cases he
    ·cases he
end
section
variable {P:Program} {C:eA} {K:Ctx} {β:Nat->Option bZ} {S:Place} {st:St} {a:Act} {w:World} {slot:Nat} {e:cR} {o:Oper}
theorem Flat.ZQ {rows:List (List Tree)} {size:Nat} {vs:List Value} (h:Flat S w rows size vs) (hs:∀r∈rows,r.length=size):∀u∈vs,one u:=by
 intro u hu;obtain⟨k,hk⟩:=List.getElem?_of_mem hu;have tw:=uz hk;rw[h.1]at tw;obtain⟨t,ht⟩:=Cv hs tw;obtain⟨v,f1,f2⟩:=h.2 _ _ _ ht;rw[Nat.div_add_mod',hk]at f1;cases f1;exact f2.one
theorem Sat.overwrite (h:Sat K β S st a w) {b sz lo:Nat} {rows new:List (List Tree)} {g:Bool} {R:bZ} (hb:look st.heap b=some (.rows sz rows g false)) (hR:β b=some R)
  (hle:lo+new.length<=rows.length) (dY:∀r∈new,r.length=sz) {nv:List Value} (Cr:Flat S w new sz nv) :
  Sat K β S ⟨st.tmps,st.heap.set b (some (.rows sz (aZ rows lo new) g false))⟩ a (w.setCells R.cb (R.co+lo*R.ah) nv) /\
   (storeCells ⟨R.cb,R.co+lo*R.ah,none⟩ nv).run P w=.ok () (w.setCells R.cb (R.co+lo*R.ah) nv)/\(∀c o,S c o->(w.setCells R.cb (R.co+lo*R.ah) nv).cell? ⟨c,o,none⟩=w.cell? ⟨c,o,none⟩):=by
 obtain⟨R',e1,⟨q0,q1,q2,q3,R9,q4,q5,q6⟩,e4,e5⟩:=h.ao b _ hb;rw[hR]at e1;cases e1;have Ak:(lo+new.length)*R.ah<=rows.length*R.ah:=Nat.mul_le_mul_right _ hle;rw[Nat.add_mul]at Ak;have JK:rows.length*R.ah<=(if g=true then R.cap else rows.length)*R.ah:=Nat.mul_le_mul_right _ (by split<;>omega);have fx:nv.length=new.length*R.ah:=by rw[Cr.1,q0]
 have vy:∀j,j<nv.length->(w.cell? ⟨R.cb,R.co+lo*R.ah+j,none⟩).isSome=true/\w.frozen? ⟨R.cb,R.co+lo*R.ah+j,none⟩=false:=fun j hj=>q4 _ (by omega) (by omega)
 have jc:∀j,j<nv.length->(aA.rows sz rows g false).wr R R.cb (R.co+lo*R.ah+j):=fun j hj=>⟨rfl,by simp;omega,by omega⟩
 have Ao:=h.eC hb hR jc;have hlen:=RY rows new lo hle;refine⟨?_,?_,Ao⟩
 ·refine h.write hb hR _ _ jc (fun c o hy=>by rw[aA.ext,hlen]at hy;exact hy) (fun c o hy=>by rw[aA.wr,hlen]at hy;exact hy) ⟨q0,fun r hr=>?_,by rw[hlen];exact q2,q3,by rw[hlen];exact R9,?_,fun i j t ht=>?_,by simp⟩
  ·obtain⟨k,hk⟩:=List.getElem?_of_mem hr
   rw[OV _ _ _ _ hle]at hk;split at hk
   ·rw[<-q0];exact dY r (List.mem_of_getElem? hk)
   ·exact q1 r (List.mem_of_getElem? hk)
  ·rw[hlen];exact Ul q4 fun j hj=>(vy j hj).1
  ·obtain⟨row,f1,f2,f3,f4⟩:=jd ht
   rw[OV _ _ _ _ hle]at f1;split at f1
   ·rename_i Sh
    obtain⟨v,k1,k2⟩:=Cr.2 _ _ _ (Gy f1 f2);have hj:j<R.ah:=by rw[<-q0,<-dY row (List.mem_of_getElem? f1)];exact f4
    rw[q0]at k1;have hii:i*R.ah=lo*R.ah+(i-lo)*R.ah:=by rw[<-Nat.add_mul];congr 1;omega
    have tw:=uz k1;exact⟨v,gG (fun j hj=>(vy j hj).1) (by omega) (by omega) (by rw[show R.co+i*R.ah+j-(R.co+lo*R.ah)=(i-lo)*R.ah+j by omega];exact k1),k2.mono (fun _ _ hx=>hx) Ao⟩
   ·rename_i Sh
    have mX:=Gy f1 f2;obtain⟨v,k1,k2⟩:=q5 _ _ _ mX;obtain⟨_,hj,_⟩:=im q1 mX;refine⟨v,?_,k2.mono (fun _ _ hx=>hx) Ao⟩;rw[Sb]
    ·exact k1
    ·rintro⟨_,h8,h9⟩
     rcases Nat.lt_or_ge i lo with Ev|Ev
     ·have:=Nat.mul_le_mul_right R.ah (show i+1<=lo by omega)
      rw[Nat.succ_mul]at this;omega
     ·have:=Nat.mul_le_mul_right R.ah (show lo+new.length<=i by omega)
      rw[Nat.add_mul]at this;omega
 ·have:=run_storeCells_cells (P:=P) R.cb (R.co+lo*R.ah) nv 0 w (fun j hj=>by simpa using (vy j hj).1) (fun j hj=>by simpa using (vy j hj).2) (fun u hu=>iQ (Cr.ZQ dY u hu))
  simpa using this
theorem Si (hC:bC P C) (h:Sat K β S st a w) {args:Array Operand} {argTypes:Array TypeId} {t el:TypeId} {te:TI} {d x:Operand}
  (ho:o.op=.call { callee:=.builtin .copy,args,argTypes }) (dM:args.toList=[d,x]) (ht:argTypes[0]?=some t) (hu:P.underlying t=some (.slice el)) (dx:C.ty el=some te)
  (he:lG te (look st.heap) (st.get d) (st.get x)=some e):oS P K β S st a w slot o e:=by
 have dQ:=jh (hC _ te dx);have Lu:args=#[d,x]:=by rw[<-Array.toArray_toList (xs:=args),dM]
 subst Lu;have Vr:=h.get d;have L4:=h.get x;unfold lG at he;split at he
 ·rename_i src oR b off len cp ZR hg
  rw[hg]at Vr;cases Vr with|c Vr=>
  generalize eL:a.eval d=av at Vr;cases Vr with|sl R base cap hR h1 h2 h3 h4 h5=>
  split at he
  ·rename_i sz rows g hb
   split at he
   ·rename_i Ap
    obtain⟨hle,jA,rfl⟩:=Ap;cases he;have L7:∀r∈src,r.length=te.size:=wv jA;obtain⟨oT,fM⟩:=iq (P:=P) h L4 ZR L7;have Sj:min src.length len<=src.length:=Nat.min_le_left _ _;have ab9:min src.length len<=len:=Nat.min_le_right _ _;obtain⟨nv,n1,n2⟩:=fM (min src.length len) Sj;have L9:(src.take (min src.length len)).length=min src.length len:=by rw[List.length_take];omega
    obtain⟨s1,s2,s3⟩:=h.overwrite (P:=P) hb hR (lo:=off) (new:=src.take (min src.length len)) (by omega) (fun r hr=>L7 r (List.mem_of_mem_take hr)) n2;refine⟨w.setCells R.cb (R.co+off*R.ah) nv,β,S,goInt (min src.length len:Nat),_,?_,.inl rfl,fun _ _=>rfl,s1,aI.sU (GB _ _)⟩;have gz:(match base with|some ad=>(storeCells ad nv).run P w|none=>.ok () w)=.ok () (w.setCells R.cb (R.co+off*R.ah) nv):=by
     rcases Nat.eq_zero_or_pos cap with h0|h0
     ·have Uo:nv=[]:=List.eq_nil_of_length_eq_zero (by rw[n2.1,L9,show min src.length len=0 by omega];simp)
      subst Uo;cases base<;>simp[storeCells,World.setCells]
     ·rw[h5 h0];exact s2
    cases base with
    | none=>
     simp only[Result.ok.injEq,true_and]at gz;rw[<-gz];simp only[execOp,ho,resolve,invoke,builtin,Builtin.copy_,Sem.run_bind,Sem.run_pure,Result.andThen,List.map_toArray,List.map_cons,List.map_nil,ht,List.getElem?_toArray,List.getElem?_cons_zero,List.getElem?_cons_succ,run_underlying hu,eL,oT,dQ.sizeOf];rw[show Nat.min src.length len=min src.length len from rfl,n1]
    | some ad=>
     simp only at gz;simp only[execOp,ho,resolve,invoke,builtin,Builtin.copy_,Sem.run_bind,Sem.run_pure,Result.andThen,List.map_toArray,List.map_cons,List.map_nil,ht,List.getElem?_toArray,List.getElem?_cons_zero,List.getElem?_cons_succ,run_underlying hu,eL,oT,dQ.sizeOf];rw[show Nat.min src.length len=min src.length len from rfl,n1];simp only[gz]
   ·cases he
  ·cases he
 ·cases he
def Ma (S:Place) (w:World) (rows:List (List Tree)) (size:Nat) (vs:Array Value):Prop:=
 vs.size=rows.length*size/\∀(i j:Nat) (t:Tree),fo rows i j=some t->∃v,vs[i*size+j]?=some v/\dX S w t v
theorem rh {size:Nat} (Vs:size≠0):∀(pa:List (Nat×AV)) (pv:List (Nat×Value)) (rows dy:List (List Tree)) (vs:Array Value) (cur:bU) (S:Place) (m:List (Nat×Option aA)),
  fC (look st.heap) size rows pa=some (dy,m)->pv.length=pa.length->Sat K β S ⟨st.tmps,cur⟩ a w->eJ st.heap cur ->
  (∀(k:Nat) (i:Nat) (x:AV),pa[k]?=some (i,x)->∃v,pv[k]?=some (i,v)/\aI β S w x v)->(∀r∈rows,r.length=size)->Ma S w rows size vs ->
  ∃S' arr,(∀c o,S c o->S' c o)/\Sat K β S' ⟨st.tmps,eR cur m⟩ a w/\eJ st.heap (eR cur m)/\Instr.fill (fun i=>some (i*size,size)) vs pv=some arr/\Ma S' w dy size arr/\(∀r∈dy,r.length=size)/\dy.length=rows.length
 | [],[],rows,dy,vs,cur,S,m,h,_,kK,hm,_,hr,hf=>by
  simp[fC]at h;obtain⟨rfl,rfl⟩:=h;exact⟨S,vs,fun _ _ hx=>hx,kK,hm,rfl,hf,hr,rfl⟩
 | (i,x)::pa,[],_,_,_,_,_,_,_,hl,_,_,_,_,_=>by simp at hl
 | [],_::_,_,_,_,_,_,_,_,hl,_,_,_,_,_=>by simp at hl
 | (i,x)::pa,(i',v)::pv,rows,dy,vs,cur,S,m,h,hl,kK,hm,hp,hr,hf=>by
  obtain⟨v',sV,hx⟩:=hp 0 i x rfl;simp at sV;obtain⟨rfl,rfl⟩:=sV;unfold fC at h;split at h
  ·rename_i cells Zz
   split at h
   ·rename_i dY
    obtain⟨dY,hi⟩:=dY;split at h
    ·rename_i ts m1 uC
     split at h
     ·rename_i r2 m2 h2
      cases h;obtain⟨h1,h3⟩:=hx.Cq Zz;obtain⟨S1,e1,e2,e3,e4,e5⟩:=gF cells v.cells.toList cur S ts m1 kK hm h1 h3 uC;have jc:i'*size+size<=rows.length*size:=by
       have:=Nat.mul_le_mul_right size (show i'+1<=rows.length by omega);rwa[Nat.succ_mul]at this
      have pP:v.cells.size=size:=by rw[<-dY,<-h1];simp
      have he:v.cells.zipIdx.foldl (fun cs (c,j)=>cs.setIfInBounds (i'*size+j) c) vs=(v.cells.toList.zipIdx 0).foldl (fun cs (x:Value×Nat)=>cs.setIfInBounds (i'*size+x.2) x.1) vs:=by
       rw[<-Array.foldl_toList,Array.toList_zipIdx]
      obtain⟨g1,g2⟩:=Great.foldl_set (i'*size) v.cells.toList 0 vs;have yv:(rows.set i' ts).length=rows.length:=by simp
      have Zy:Ma S1 w (rows.set i' ts) size (v.cells.zipIdx.foldl (fun cs (c,j)=>cs.setIfInBounds (i'*size+j) c) vs):=by
       rw[he];refine⟨by rw[g1,yv];exact hf.1,fun p j t ht=>?_⟩;rw[g2];obtain⟨row,k1,k2,k3,k4⟩:=jd ht;rw[List.getElem?_set]at k1;rw[yv]at k3;split at k1
       ·rename_i ZS
        subst ZS;cases k1;have hj:j<size:=by omega
        rw[if_pos ⟨by omega,by omega,by rw[hf.1];omega⟩];obtain⟨u,q1,q2⟩:=e5 j t k2;exact⟨u,by rw[show i'*size+j-(i'*size+0)=j by omega];exact q1,q2⟩
       ·rename_i ZS
        have hj:j<size:=by rw[<-hr row (List.mem_of_getElem? k1)];exact k4
        rw[if_neg (by
         rintro⟨q1,q2,q3⟩
         rcases Nat.lt_trichotomy p i' with q|q|q
         ·have:=Nat.mul_le_mul_right size (show p+1<=i' by omega)
          rw[Nat.succ_mul]at this;omega
         ·exact ZS q.symm
         ·have:=Nat.mul_le_mul_right size (show i'+1<=p by omega)
          rw[Nat.succ_mul]at this;omega)]
        obtain⟨u,q1,q2⟩:=hf.2 p j t (Gy k1 k2);exact⟨u,q1,q2.mono e1 fun _ _ _=>rfl⟩
      have IF:∀r∈rows.set i' ts,r.length=size:=by
       intro r vx;rcases List.mem_or_eq_of_mem_set vx with h|h
       ·exact hr r h
       ·rw[h,e4,dY]
      obtain⟨S2,arr,f1,f2,f3,f4,f5,f6,f7⟩:=rh Vs pa pv _ _ _ _ S1 m2 h2 (by simpa using hl) e2 e3 (fun k i x hk=>by
       obtain⟨u,q1,q2⟩:=hp (k+1) i x (by simpa using hk);exact⟨u,by simpa using q1,q2.mono (fun _ _ hx=>hx) e1 fun _ _ _=>rfl⟩) IF Zy
      refine⟨S2,arr,fun c o hx=>f1 _ _ (e1 _ _ hx),by rw[GJ];exact f2,by rw[GJ];exact f3,?_,f5,f6,by rw[f7,yv]⟩;unfold Instr.fill;simp only[pP,hf.1];rw[if_neg (by simp;exact jc)];exact f4
     ·cases h
    ·cases h
   ·cases h
  ·cases h
theorem Mb (h:Sat K β S st a w) (hs:slot<st.heap.length) (hf:β slot=none) {t el:TypeId} {len:Nat} {ti te:TI} {parts:Array (Nat×Operand)} (ho:o.op=.buildSlice t len parts)
  (dQ:g9 P t ti) (eI:g9 P el te) (hk:ti.kind=.slice el) (he:qT C slot t te.size len (parts.toList.map fun p=>(p.1,st.get p.2))=some e):oS P K β S st a w slot o e:=by
 obtain⟨ie,z,i1,i2,i3,_,_⟩:=rf eI S w β;have Mc:∀(k i:Nat) (x:AV),(parts.toList.map fun p=>(p.1,st.get p.2))[k]?=some (i,x)->∃v,(parts.map fun(i,x)=>(i,a.eval x)).toList[k]?=some (i,v)/\aI β S w x v:=fun k i x hx=>oq h parts k i x hx
 have Oi:(parts.map fun(i,x)=>(i,a.eval x)).toList.length=(parts.toList.map fun p=>(p.1,st.get p.2)).length:=by simp
 generalize (parts.toList.map fun p=>(p.1,st.get p.2))=ps at he Mc Oi;generalize X8:(parts.map fun(i,x)=>(i,a.eval x))=pv at Mc Oi;unfold qT at he;split at he
 ·rename_i pP dY
  cases he;have ZT:pv=#[]:=by
   have:pv.toList=[]:=List.eq_nil_of_length_eq_zero Oi;exact Array.toList_eq_nil_iff.1 this
  obtain⟨β',f1,f2,f3⟩:=h.wq (slot:=slot) hs hf (w':=w.alloc (.cells #[] el)) (cells:=#[]) (el:=el) (cs:=[]) rfl rfl rfl rfl (by simp) (by simp) (fun j c hj=>by simp at hj);refine⟨_,β',S,_,.value (.slice (some ⟨w.heap.size,0,none⟩) 0 0),?_,.inl rfl,f1,f2,f3⟩;simp only[execOp,ho,X8,ZT,Instr.buildSlice,run_underlying (dQ.slice hk),Sem.run_bind,Result.andThen,eI.sizeOf,Nat.zero_mul,Sem.run_ite,Sem.run_pure]
  rw[if_neg (by omega)];have JS:Array.map (fun x=>(#[]:Array Value)[x%(#[]:Array Value).size]!) (Array.range 0)=#[]:=by
   have:Array.range 0=#[]:=rfl;rw[this,Array.map_empty]
  simp only[if_true,Sem.run_pure,Instr.fill,newRow,run_newObj,Sem.run_bind,Result.andThen,JS];rfl
 ·rename_i x pP dY
  cases he;obtain⟨v,Al,EE⟩:=Mc 0 0 (.c x) rfl;have ZU:pv.toList=[(0,v)]:=by
   match hq:pv.toList,Oi with
   | [q],_=>rw[hq]at Al;simp at Al;rw[Al]
  cases EE with|c EE=>
  have hvc:=tq EE.one;obtain⟨β',f1,f2,f3⟩:=h.wq (slot:=slot) hs hf (w':=w.alloc (.cells #[v] el)) (cells:=#[v]) (el:=el) (cs:=[x]) rfl rfl rfl rfl (by simp) (by simp) (fun j c hj=>by
   cases j with
   | zero=>simp at hj;subst hj;exact⟨v,rfl,EE⟩
   | succ j=>simp at hj)
  have di:=run_buildSlice (P:=P) w t el 1 pv #[v] ie z (dQ.slice hk) i1 i2 (by rw[i3,dY];decide) (by rw[i3,dY];decide) (by
   rw[ZU,i3,dY];have hA:∀A:Array Value,A.size=1->Instr.fill (fun i=>some (i*1,1)) A [(0,v)]=some #[v]:=fun A hA=>by
    have ji:A.setIfInBounds 0 v=#[v]:=by
     apply Array.ext
     ·simp[hA]
     ·intro i q1 q2
      have:i=0:=by simp at q2;omega
      subst this;simp
    simp[Instr.fill,hvc,hA,ji]
   exact hA _ (by simp))
  refine⟨_,β',S,_,.value (.slice (some ⟨w.heap.size,0,none⟩) 1 1),?_,.inl rfl,f1,f2,f3⟩;simp only[execOp,ho,X8,Sem.run_bind,di,Result.andThen,Sem.run_pure]
 ·cases he
theorem CG (hC:bC P C) (h:Sat K β S st a w) (hs:slot<st.heap.length) (hf:β slot=none) {t:TypeId} {len:Nat} {parts:Array (Nat×Operand)} (ho:o.op=.buildSlice t len parts)
  (he:evalOp C slot st.get (look st.heap) (.buildSlice t len parts)=some e):oS P K β S st a w slot o e:=by
 simp only[evalOp]at he;split at he
 ·rename_i ti cZ
  have dQ:=jh (hC t ti cZ);split at he
  ·rename_i el hk
   split at he
   ·rename_i te dx
    have eI:=jh (hC _ te dx);split at he
    ·rename_i dY
     obtain⟨dY,Vs⟩:=dY;split at he
     ·rename_i e1 h1
      cases he;exact Mb h hs hf ho dQ eI hk h1
     ·split at he
      ·rename_i rows m hfr
       cases he;obtain⟨ie,z,i1,i2,i3,_,_⟩:=rf eI S w β;obtain⟨z',z1,z2,z3⟩:=Ez eI Vs S w len;have ZA:z'=z:=by
        simp[Go.zeroValue,Go.typeInfo,i1,i2,Result.andThen]at z1;exact z1.symm
       subst ZA;obtain⟨S1,arr,e1,e2,e3,e4,e5,e6,e7⟩:=rh (a:=a) (w:=w) Vs _ _ _ _ ((Array.range (len*te.size)).map (z'.cells[· % z'.cells.size]!)) st.heap S m hfr (by simp) h (eJ.refl _) (oq h parts) (fun r hr=>by rw[(List.mem_replicate.1 hr).2];exact eI.len) ⟨by simp,fun i j t ht=>by
        obtain⟨v,q1,q2⟩:=z3.2 i j t ht;exact⟨v,by rw[<-Array.getElem?_toList];exact q1,q2⟩⟩
       have yv:rows.length=len:=by rw[e7];simp
       have hlb:len*1<=len*te.size:=Nat.mul_le_mul_left _ (by omega);have aca:len<2^60:=by omega
       obtain⟨β',S',f1,f2,f3,f4⟩:=e2.Cx (slot:=slot) (by rw[L0];exact hs) hf (w':=w.alloc (.cells arr el)) (cells:=arr) (el:=el) (rows:=rows) (size:=te.size) (cap:=len) (g:=true) (fz:=false) rfl rfl rfl rfl e6 (by omega) (by omega) (by omega) (by rw[e5.1,yv]) ⟨by rw[List.length_take];simp[e5.1],fun i j t ht=>by
        obtain⟨v,q1,q2⟩:=e5.2 i j t ht;obtain⟨_,_,bJ⟩:=im e6 ht;exact⟨v,by rw[List.getElem?_take,if_pos bJ];simpa using q1,q2⟩⟩
       rw[yv]at f3
       by_cases h0:len=0
       ·subst h0
        have OS:rows=[]:=List.eq_nil_of_length_eq_zero yv;refine⟨_,β',S',_,.value (.slice (some ⟨w.heap.size,0,none⟩) 0 0),?_,.inl rfl,f1,by rw[GJ];exact f2,f3⟩;have ha:arr=#[]:=Array.eq_empty_of_size_eq_zero (by rw[e5.1,OS];simp);subst ha;simp only[Nat.zero_mul]at e4;simp only[execOp,ho,Instr.buildSlice,run_underlying (dQ.slice hk),Sem.run_bind,Result.andThen,eI.sizeOf,Nat.zero_mul,Sem.run_ite,Sem.run_pure]
        have JS:Array.range 0=#[]:=rfl;have hrz:Array.map (fun x=>(#[]:Array Value)[x%(#[]:Array Value).size]!) (Array.range 0)=Array.map (fun x=>z'.cells[x%z'.cells.size]!) (Array.range 0):=by rw[JS];simp only[Array.map_empty]
        rw[if_neg (by omega)];simp only[if_true,Sem.run_pure,hrz,e4,newRow,run_newObj,Sem.run_bind,Result.andThen];rfl
       ·have di:=run_buildSlice (P:=P) w t el len (parts.map fun(i,x)=>(i,a.eval x)) arr ie z' (dQ.slice hk) i1 i2 (by rw[i3];omega) (fun hh=>by rcases Nat.mul_eq_zero.1 hh with q|q;exact h0 q;exact Vs (by rw[<-i3];exact q)) (by rw[i3];exact e4)
        refine⟨_,β',S',_,.value (.slice (some ⟨w.heap.size,0,none⟩) len len),?_,.inl rfl,f1,by rw[GJ];exact f2,f3⟩;simp only[execOp,ho,Sem.run_bind,di,Result.andThen,Sem.run_pure]
      ·cases he
    ·cases he
   ·cases he
  ·cases he
 ·cases he
theorem wx {kd:TypeDesc} {key:Value} {tv:Tree} (hs:∀x b,sameKey key x=some b->Instr.sameNow kd key x=some b) :
  ∀(de nn:List (Value×Tree)) (es:List MapEntry) (i:Nat),gk key tv de=some nn->es.length=de.length ->
  (∀(i:Nat) (k:Value) (t:Tree),de[i]?=some (k,t)->∃e:MapEntry,es[i]?=some e/\e.key=k/\dX S w t e.val) ->
  (Instr.findNow kd key es i=some none/\nn=de ++ [(key,tv)]) ∨
  (∃(j:Nat) (e:MapEntry),Instr.findNow kd key es i=some (some (i+j,e.val))/\es[j]?=some e/\sameKey key e.key=some true/\nn=de.set j (key,tv))
 | [],nn,es,i,h,hl,_=>by
  simp[gk]at h;subst h;have:es=[]:=List.eq_nil_of_length_eq_zero (by simpa using hl);subst this;exact .inl ⟨by simp[Instr.findNow],rfl⟩
 | (k,t)::de,nn,[],_,_,hl,_=>by simp at hl
 | (k,t)::de,nn,e::es,i,h,hl,hr=>by
  obtain⟨e',OM,JM,dx⟩:=hr 0 k t rfl;simp at OM;subst OM;unfold gk at h;simp only at h;split at h
  ·rename_i Lq
   cases h;have:=hs _ _ Lq;refine .inr ⟨0,e,?_,rfl,by rw[JM];exact Lq,rfl⟩;simp[Instr.findNow,JM,this]
  ·rename_i Lq
   have hn:=hs _ _ Lq;obtain⟨r,IF,rfl⟩:=Option.map_eq_some_iff.1 h;rcases wx hs de r es (i+1) IF (by simpa using hl) (fun j k' t' hj=>by simpa using hr (j+1) k' t' (by simpa using hj)) with⟨h1,rfl⟩|⟨j,e0,h1,h2,h3,rfl⟩
   ·exact .inl ⟨by simp only[Instr.findNow,JM,hn];exact h1,rfl⟩
   ·exact .inr ⟨j+1,e0,by simp only[Instr.findNow,JM,hn];rw[h1];congr 3;omega,by simpa using h2,h3,rfl⟩
  ·cases h
theorem EF (a b:ByteArray):(a==b)=true↔a=b:=by
 show(a.data==b.data)=true↔_
 rw[beq_iff_eq];constructor
 ·intro h;cases a;cases b;simp only at h;rw[h]
 ·intro h;rw[h]
theorem sameKey_eq {x y:Value} (h:sameKey x y=some true):x=y/\∀n,Instr.sameBits n y x=true:=by
 unfold sameKey at h;split at h
 ·split at h
  ·rename_i hk;subst hk
   simp only[Option.some.injEq,beq_iff_eq]at h;subst h;exact⟨rfl,fun n=>by cases n<;>simp[Instr.sameBits]⟩
  ·cases h
 ·simp only[Option.some.injEq,EF]at h;subst h
  exact⟨rfl,fun n=>by cases n<;>simp[Instr.sameBits,EF]⟩
 ·simp only[Option.some.injEq,beq_iff_eq]at h;subst h
  exact⟨rfl,fun n=>by cases n<;>simp[Instr.sameBits]⟩
 ·cases h
theorem EG (hC:bC P C) (h:Sat K β S st a w) {t:TypeId} {x i v:Operand} (ho:o.op=.mapUpdate t x i v)
  (he:evalOp C slot st.get (look st.heap) (.mapUpdate t x i v)=some e):oS P K β S st a w slot o e:=by
 simp only[evalOp]at he;have hx:=h.get x;have hi:=h.get i;have hv:=h.get v;split at he
 ·rename_i ti cZ
  have dQ:=jh (hC t ti cZ);split at he
  ·rename_i k el b key tv hk Cs Ls Vt
   rw[Cs]at hx;rw[Ls]at hi;rw[Vt]at hv;obtain⟨hi,_⟩:=hi.scalar;cases hv with|c hv=>
   cases hv with|t hv=>
   cases hx with|c hx=>
   generalize eL:a.eval x=av at hx;cases hx with|mp R hR=>
   split at he
   ·rename_i de tk hb fc
    have RU:=jh (hC _ tk fc);obtain⟨R',h6,h7,ZV,ZW⟩:=h.ao b _ hb;rw[hR]at h6;cases h6;obtain⟨hB,es,clock,h8,h9,Ev⟩:=h7;split at he
    ·cases he
    ·rename_i kJ
     have Vu:jm tk.kind key=true:=by simpa using kJ
     obtain⟨kd,XK,ON,Ct⟩:=uA RU Vu;split at he
     ·rename_i nn hse
      cases he;have gn:(getObj R.cb).run P w=.ok (.map es clock) w:=by simp[getObj,Sem.run,h8]
      have OO:=Ct false 9999 w;have bJ:R.cb<w.heap.size:=(ZV R.cb 0 ⟨rfl,trivial⟩).1;have jN:∀ob,(setObj R.cb ob).run P w=.ok () { w with heap:=w.heap.setIfInBounds R.cb ob }:=by
       intro ob;simp[setObj,Sem.run,h8]
      have fin:∀(ID:Array MapEntry) (np:Nat),ID.size=nn.length->(∀(i:Nat) (k:Value) (t:Tree),nn[i]?=some (k,t)->∃e:MapEntry,ID[i]?=some e/\e.key=k/\dX S w t e.val) ->
        (execOp a.eval o).run P w=.ok .skip { w with heap:=w.heap.setIfInBounds R.cb (.map ID np) }->oS P K β S st a w slot o { wr:=[(b,some (.map nn))],rd:=[b] }:=by
       intro ID np dY jB di;have hk:fp (fun c _=>c=R.cb) w { w with heap:=w.heap.setIfInBounds R.cb (.map ID np) }:=by
        refine⟨rfl,rfl,rfl,by simp,fun q ob hq=>?_⟩;show fZ _ q ob ((w.heap.setIfInBounds R.cb (.map ID np))[q]?)
        rw[Array.getElem?_setIfInBounds]
        by_cases hqc:R.cb=q
        ·subst hqc
         rw[if_pos rfl,if_pos bJ];rw[h8]at hq;cases hq;exact⟨ID,np,rfl,fun hn=>absurd rfl (hn 0)⟩
        ·rw[if_neg hqc,hq];exact fZ.refl _ _ _
       have hold:∀c o,S c o->(World.cell? { w with heap:=w.heap.setIfInBounds R.cb (.map ID np) } ⟨c,o,none⟩)=w.cell? ⟨c,o,none⟩:=fun c o hs=>(hk.cell (h.sT c o hs) fun e=>ZW c o ⟨e,trivial⟩ hs).1
       refine⟨_,β,S,undef,.skip,di,.inr ⟨rfl,rfl⟩,fun _ _=>rfl,?_,.af _⟩;refine h.step (fun b'=>b'=b) hk (fun c o hc bJ=>⟨ZW c o ⟨hc,trivial⟩,(ZV c o ⟨hc,trivial⟩).2,fun b' ao R1 hD bQ Lt hy=>?_⟩) (fun _ _ hx=>hx) (fun b' R' bQ=>by rw[L0];exact h.top b' R' bQ) (fun _ _ hx=>hx) (fun _ _ hx=>.inl hx) (fun b' ao hD bQ=>?_) (fun b' ao hD bQ=>?_)
       ·exact h.mK b b' _ ao R R1 (Ne.symm hD) hb bQ hR Lt c o ⟨hc,trivial⟩ hy
       ·simp only[eR,List.foldl_cons,List.foldl_nil]at bQ
        rw[tu hD]at bQ;exact bQ
       ·subst hD
        simp only[eR,List.foldl_cons,List.foldl_nil]at bQ;rw[An (tj hb)]at bQ;cases bQ;refine⟨R,hR,⟨hB,ID,np,?_,dY,fun i k t hi=>?_⟩,fun c o hy=>?_,fun c o hy=>ZW c o hy,fun Ex iU wi dh jn mQ c o hy=>?_⟩
        ·show(w.heap.setIfInBounds R.cb (.map ID np))[R.cb]?=_
         rw[Array.getElem?_setIfInBounds,if_pos rfl,if_pos bJ]
        ·obtain⟨e,q1,q2,q3⟩:=jB i k t hi
         exact⟨e,q1,q2,q3.mono (fun _ _ hx=>hx) hold⟩
        ·obtain⟨q1,q2⟩:=ZV c o hy
         exact⟨by simpa using q1,q2⟩
        ·simp only[eR,List.foldl_cons,List.foldl_nil]at jn
         rw[tu dh]at jn;exact h.mK _ _ _ _ R wi (Ne.symm dh) hb jn hR mQ c o hy
      rcases wx (S:=S) (w:=w) ON de nn es.toList 0 hse (by simpa using h9) (fun i k t hi=>by obtain⟨e,q1,q2⟩:=Ev i k t hi;exact⟨e,by simpa using q1,q2⟩) with⟨jx,rfl⟩|⟨j,e0,jx,hej,Lq,rfl⟩
      ·refine fin (es.push { key,val:=a.eval v,born:=clock }) (clock+1) (by simp[h9]) (fun i k t hi=>?_) ?_
       ·rw[List.getElem?_append]at hi
        split at hi
        ·rename_i tx
         obtain⟨e,q1,q2⟩:=Ev i k t hi;exact⟨e,by rw[Array.getElem?_push,if_neg (by omega)];exact q1,q2⟩
        ·rename_i Gx
         have:i=de.length:=by
          have:=uz hi;simp at this;omega
         subst this;simp at hi;obtain⟨rfl,rfl⟩:=hi;exact⟨_,by rw[Array.getElem?_push,if_pos h9.symm],rfl,hv⟩
       ·simp only[execOp,ho,Instr.mapUpdate,run_underlying (dQ.map hk),eL,hi,Sem.run_bind,Sem.run_pure,Result.andThen,gn,OO,Instr.findKey,run_underlying XK,jx,jN]
      ·obtain⟨JM,Vv⟩:=sameKey_eq Lq
       refine fin (es.modify j fun e=>{ e with key,val:=a.eval v }) clock (by simp[h9]) (fun i k t hi=>?_) ?_
       ·rw[List.getElem?_set]at hi
        split at hi
        ·rename_i ZX
         subst ZX;split at hi
         ·cases hi
          exact⟨_,by rw[Array.getElem?_modify,if_pos rfl,show es[j]?=some e0 by simpa using hej];rfl,rfl,hv⟩
         ·cases hi
        ·rename_i ZX
         obtain⟨e,q1,q2⟩:=Ev i k t hi;exact⟨e,by rw[Array.getElem?_modify,if_neg ZX];exact q1,q2⟩
       ·have ZY:es[j]?=some e0:=by simpa using hej
        rw[Nat.zero_add]at jx;simp only[execOp,ho,Instr.mapUpdate,run_underlying (dQ.map hk),eL,hi,Sem.run_bind,Sem.run_pure,Result.andThen,gn,OO,Instr.findKey,run_underlying XK,jx,ZY,Option.map_some,Option.getD_some,Instr.keyThatStays,Vv,if_true,Nat.zero_add,jN]
     ·cases he
   ·cases he
  ·cases he
 ·cases he
end
inductive TV where
 | c (t:Tree)
 | agg (l:List Tree)
 deriving Inhabited
def TV.av:TV->AV
 | .c t=>.c (.t t)
 | .agg l=>.agg (l.map .t)
inductive Arg where
 | val (x:TV)
 | fu (sz:Nat) (rows:List (List Tree))
 | own (sz:Nat) (rows:List (List Tree))
 | ref (cells:List Tree)
 | dA (f:FuncId) (aN:List (Nat×Nat×Nat))
 | gh (cells:List Tree)
 deriving Inhabited
def kM:List Arg->Nat
 | []=>0
 | .gh _::_=>0
 | _::as=>kM as+1
def Arg.ao:Arg->Option aA
 | .val _=>none
 | .fu sz rows=>some (.rows sz rows false false)
 | .own sz rows=>some (.rows sz rows true false)
 | .ref cells=>some (.var (cells.map .t))
 | .dA _ _=>none
 | .gh cells=>some (.var (cells.map .t))
inductive RC where
 | val (x:TV)
 | own (sz:Nat) (rows:List (List Tree))
 deriving Inhabited
structure ko where
 aW:List RC
 out:List (Option aA)
abbrev EH:Nat->Option bZ:=fun _=>none
def JU (R:bZ) (n:Nat) (v:Value):Prop:=∃base,v=.slice base n R.cap/\(0<R.cap->base=some ⟨R.cb,R.co,none⟩)
def QS (S:Place) (w:World) (R:bZ):Arg->Value->Prop
 | .val x,v=>aI EH S w x.av v
 | .fu sz rows,v=>JU R rows.length v/\eH EH S w 0 R (.rows sz rows false false)
 | .own sz rows,v=>JU R rows.length v/\eH EH S w 0 R (.rows sz rows true false)
 | .ref cells,v=>v=.pointer (some ⟨R.cb,R.co,none⟩)/\eH EH S w 0 R (.var (cells.map .t))
 | .dA _ _,_=>True
 | .gh cells,v=>v=.pointer (some ⟨R.cb,R.co,none⟩)/\eH EH S w 0 R (.var (cells.map .t))
def βA (args:List Arg) (Rs:Nat->bZ):Nat->Option bZ:=fun i=>if((args[i]?).bind Arg.ao).isSome then some (Rs i) else none
def Vw (S:Place) (w:World) (R:bZ):RC->Value->Prop
 | .val x,v=>aI EH S w x.av v
 | .own sz rows,v=>JU R rows.length v/\eH EH S w 0 R (.rows sz rows true false)
def nq (args:List Arg) (Rs:Nat->bZ):Place:=fun c o=>∃(i:Nat) (arg:Arg) (ao:aA),args[i]?=some arg/\arg.ao=some ao/\ao.ext (Rs i) c o
structure ox (args:List Arg) (S:Place) (w:World) (aW:List Value) (Rs:Nat->bZ):Prop where
 len:aW.length=args.length
 ok:∀(i:Nat) (arg:Arg),args[i]?=some arg->∃v,aW[i]?=some v/\QS S w (Rs i) arg v
 sT:∀c o,S c o->c<w.heap.size
 ext:∀(i:Nat) (arg:Arg) (ao:aA),args[i]?=some arg->arg.ao=some ao->(∀c o,ao.ext (Rs i) c o->c<w.heap.size)/\(∀c o,ao.wr (Rs i) c o->¬S c o)
 mK:∀(i j:Nat) (x y:Arg) (b b':aA),i≠j->args[i]?=some x->args[j]?=some y->x.ao=some b->y.ao=some b'->∀c o,b.ext (Rs i) c o->¬b'.ext (Rs j) c o
 dA:∀(i:Nat) (f:FuncId) (aN:List (Nat×Nat×Nat)) (v:Value),args[i]?=some (.dA f aN)->aW[i]?=some v->dv (βA args Rs) S w (.dA f aN) v
structure fR (args:List Arg) (res:ko) (S:Place) (w:World) (Rs:Nat->bZ) (v:Value) (w':World):Prop where
 p:∃(S':Place) (Rr:Nat->bZ) (vs:List Value),vs.length=res.aW.length/\v=(if vs.length=1 then vs.getD 0 undef else .tuple vs.toArray) /\
  fp (nq args Rs) w w'/\(∀c o,S c o->S' c o)/\(∀c o,S' c o->S c o∨(c<w'.heap.size/\(w.heap.size<=c∨nq args Rs c o))) /\
  (∀(k:Nat) (r:RC),res.aW[k]?=some r->∃u,vs[k]?=some u/\Vw S' w' (Rr k) r u) /\
  (∀(k sz:Nat) (rows:List (List Tree)),res.aW[k]?=some (.own sz rows)->(∀c o,(aA.rows sz rows true false).ext (Rr k) c o->c<w'.heap.size/\(w.heap.size<=c∨nq args Rs c o))/\(∀c o,(aA.rows sz rows true false).wr (Rr k) c o->¬S' c o)) /\
  (∀(k l sz lA:Nat) (rows dy:List (List Tree)),k≠l->res.aW[k]?=some (.own sz rows)->res.aW[l]?=some (.own lA dy)->∀c o,(aA.rows sz rows true false).ext (Rr k) c o->¬(aA.rows lA dy true false).ext (Rr l) c o) /\
  (∀(i:Nat) (ao:aA),res.out[i]?=some (some ao)->∃arg b0,args[i]?=some arg/\arg.ao=some b0/\(∀c o,ao.ext (Rs i) c o->b0.ext (Rs i) c o)/\eH EH S' w' 0 (Rs i) ao/\(∀c o,ao.wr (Rs i) c o->¬S' c o) /\
   ∀(k sz:Nat) (rows:List (List Tree)),res.aW[k]?=some (.own sz rows)->∀c o,ao.ext (Rs i) c o->¬(aA.rows sz rows true false).ext (Rr k) c o)
def eP (P:Program) (f:FuncId) (args:List Arg) (res:ko):Prop:=
 (∃fn,P.funcs[f]?=some fn/\fn.body.isSome=true/\(fn.name == "runtime.NumGoroutine")=false)/\∀(S:Place) (w:World) (aW:List Value) (Rs:Nat->bZ),ox args S w aW Rs ->
  Calls P f (aW.take (kM args)).toArray w fun e w'=>∃v,e=.returned v/\fR args res S w Rs v w'
inductive bK where
 | none
 | fu (b off len:Nat)
 | own (b:Nat)
 | ref (b:Nat)
 deriving Inhabited
def wy (h:Hp):AV->Option (TV×List (Nat×Option aA))
 | .c c=>(toTree h c).map fun p=>(.c p.1,p.2)
 | .agg l=>(bS h l).map fun p=>(.agg p.1,p.2)
 | _=>none
def eG (h:Hp):Mode->AV->Option (Arg×List (Nat×Option aA)×bK)
 | .val,.c (.dA f aN)=>some (.dA f aN,[],.none)
 | .val,x=>(wy h x).map fun p=>(.val p.1,p.2,.none)
 | .fu,.c (.sl b off len false)=>match h b with
  | some (.rows sz rows _ false)=>if off+len<=rows.length then some (.fu sz ((rows.drop off).take len),[],.fu b off len) else none
  | _=>none
 | .own sz,.c (.sl b 0 len false)=>match h b with
  | some (.rows lA rows true false)=>if lA=sz/\len=rows.length then some (.own sz rows,[],.own b) else none
  | _=>none
 | .own sz,.c (.t (.aa true []))=>some (.own sz [],[],.none)
 | .rd,.c (.sl b off len false)=>match h b with
  | some (.rows sz rows _ false)=>if off+len<=rows.length then some (.fu sz ((rows.drop off).take len),[],.fu b off len) else none
  | _=>none
 | .rd,x=>(wy h x).map fun p=>(.val p.1,p.2,.none)
 | .ref,.c (.ptr b 0 0)=>match h b with
  | some (.var cells)=>match bS h cells with
   | some (ts,[])=>some (.ref ts,[],.ref b)
   | _=>none
  | _=>none
 | _,_=>none
def da (h:Hp):List Mode->List AV->Option (List Arg×List (Nat×Option aA)×List bK)
 | [],[]=>some ([],[],[])
 | m::ms,x::xs=>match eG h m x,da h ms xs with
  | some (a,k,b),some (as,ks,bs)=>some (a::as,k++ks,b::bs)
  | _,_=>none
 | _,_=>none
def pX:List (Nat×Nat×Nat)->List Nat->List Nat
 | [],acc=>acc
 | (b,_,_)::l,acc=>match acc.contains b with
  | true=>pX l acc
  | false=>pX l (acc ++ [b])
def pk:List Arg->List Nat->List Nat
 | [],acc=>acc
 | .dA _ aN::as,acc=>pk as (pX aN acc)
 | _::as,acc=>pk as acc
def posOf (b:Nat):List Nat->Nat
 | []=>0
 | x::l=>match Nat.beq b x with
  | true=>0
  | false=>posOf b l+1
def CH (gs:List Nat) (n:Nat):List (Nat×Nat×Nat)->List (Nat×Nat×Nat)
 | []=>[]
 | (b,r,c)::l=>(n+posOf b gs,r,c)::CH gs n l
def pY (gs:List Nat) (n:Nat):List Arg->List Arg
 | []=>[]
 | .dA f aN::as=>.dA f (CH gs n aN)::pY gs n as
 | a::as=>a::pY gs n as
def kr (h:Hp):List Nat->Option (List Arg)
 | []=>some []
 | b::l=>match h b with
  | some (.var cells)=>match bS h cells,kr h l with
   | some (ts,[]),some as=>some (.gh ts::as)
   | _,_=>none
  | _=>none
def ri:List Nat->List bK
 | []=>[]
 | b::l=>.ref b::ri l
def eW (h:Hp) (ms:List Mode) (xs:List AV):Option (List Arg×List (Nat×Option aA)×List bK):=
 match da h ms xs with
 | none=>none
 | some (as,ks,bs)=>match pk as []with
  | []=>some (as,ks,bs)
  | g::gs=>match kr h (g::gs) with
   | some As=>some (pY (g::gs) as.length as++As,ks,bs++ri (g::gs))
   | none=>none
def bK.id:bK->Option Nat
 | .none=>Option.none
 | .fu b _ _=>some b
 | .own b=>some b
 | .ref b=>some b
def dB (h:Hp):List bK->List (Option aA)->Option (List (Nat×Option aA))
 | [],[]=>some []
 | .none::bs,_::os=>dB h bs os
 | .own b::bs,_::os=>(dB h bs os).map ((b,none) :: ·)
 | .fu b off len::bs,some (.rows sz r false false)::os=>match h b with
  | some (.rows lA rows g false)=>if lA=sz/\r.length=len then(dB h bs os).map ((b,some (.rows lA (aZ rows off r) g false)) :: ·) else none
  | _=>none
 | .ref b::bs,some (.var cs)::os=>match h b with
  | some (.var gL)=>if cs.length=gL.length then(dB h bs os).map ((b,some (.var cs)) :: ·) else none
  | _=>none
 | _,_=>none
def TV.scalar:TV->Bool
 | .c (.v _)=>true
 | .agg l=>l.all fun|.v _=>true|_=>false
 | _=>false
def RC.scalar:RC->Bool
 | .val x=>x.scalar
 | _=>false
def ek (slot:Nat):List RC->List AV×List (Nat×Option aA)
 | []=>([],[])
 | .val x::rs=>let p:=ek slot rs;(x.av::p.1,p.2)
 | .own sz rows::rs=>let p:=ek (slot+1) rs;(.c (.sl slot 0 rows.length false)::p.1,(slot,some (.rows sz rows true false))::p.2)
def He (l:List AV):AV:=match l with
 | [x]=>x
 | l=>.pN l
def RC.nr:RC->Bool
 | .own _ _=>true
 | _=>false
def gO (h:Hp) (slot:Nat) (marks:List (Nat×Option aA)) (dV:List bK) (res:ko):Option cR:=
 let ids:=dV.filterMap bK.id
 if(res.aW.all RC.scalar)&&ids.isEmpty then some { val:=He (ek slot res.aW).1,rd:=Go.Abs.ids marks }
 else if !(ids.all fun i=>!((Go.Abs.ids marks).contains i)) || !decide ids.Nodup || !decide ((res.aW.filter RC.nr).length<=2) then none
 else match dB h dV res.out with
  | some bw=>some { val:=He (ek slot res.aW).1,wr:=marks++bw++(ek slot res.aW).2,rd:=Go.Abs.ids marks++ids }
  | none=>none
section
variable {P:Program} {C:eA} {K:Ctx} {β:Nat->Option bZ} {S:Place} {st:St} {a:Act} {w:World} {slot:Nat} {e:cR} {o:Oper} {f:FuncId}
inductive jC (β:Nat->Option bZ) (heap:bU) (S:Place) (w:World):Arg->bK->bZ->Value->Prop where
 | val {x:TV} {R:bZ} {v:Value}:aI EH S w x.av v->jC β heap S w (.val x) .none R v
 | fu {sz b off len:Nat} {rows:List (List Tree)} {g:Bool} {R:bZ} {v:Value}:look heap b=some (.rows sz rows g false)->β b=some R->off+len<=rows.length ->
   JU ⟨R.cb,R.co+off*R.ah,R.ah,R.cap-off⟩ len v->jC β heap S w (.fu sz ((rows.drop off).take len)) (.fu b off len) ⟨R.cb,R.co+off*R.ah,R.ah,R.cap-off⟩ v
 | own {sz b:Nat} {rows:List (List Tree)} {R:bZ} {v:Value}:look heap b=some (.rows sz rows true false)->β b=some R->JU R rows.length v->jC β heap S w (.own sz rows) (.own b) R v
 | nil {sz:Nat} {v:Value}:JU ⟨0,0,sz,0⟩ 0 v->jC β heap S w (.own sz []) .none ⟨0,0,sz,0⟩ v
 | ref {b:Nat} {ts:List Tree} {R:bZ} {v:Value}:look heap b=some (.var (ts.map .t))->β b=some R->v=.pointer (some ⟨R.cb,R.co,none⟩)->jC β heap S w (.ref ts) (.ref b) R v
 | dA {f:FuncId} {aN:List (Nat×Nat×Nat)} {R:bZ} {v:Value}:jC β heap S w (.dA f aN) .none R v
 | gh {b:Nat} {ts:List Tree} {R:bZ} {v:Value}:look heap b=some (.var (ts.map .t))->β b=some R->v=.pointer (some ⟨R.cb,R.co,none⟩)->jC β heap S w (.gh ts) (.ref b) R v
theorem jC.mono {heap:bU} {S S':Place} {x:Arg} {b:bK} {R:bZ} {v:Value} (h:jC β heap S w x b R v) (hS:∀c o,S c o->S' c o):jC β heap S' w x b R v:=by
 cases h with
 | val h=>exact .val (h.mono (fun _ _ hx=>hx) hS fun _ _ _=>rfl)
 | fu h1 h2 h3 h4=>exact .fu h1 h2 h3 h4
 | own h1 h2 h3=>exact .own h1 h2 h3
 | nil h1=>exact .nil h1
 | ref h1 h2 h3=>exact .ref h1 h2 h3
 | dA=>exact .dA
 | gh h1 h2 h3=>exact .gh h1 h2 h3
theorem EI {cur:bU} (h:Sat K β S ⟨st.tmps,cur⟩ a w) (hm:eJ st.heap cur) {x:AV} {v:Value} (hx:aI β S w x v) {tv:TV} {m:List (Nat×Option aA)} (ht:wy (look st.heap) x=some (tv,m)) :
  ∃S',(∀c o,S c o->S' c o)/\Sat K β S' ⟨st.tmps,eR cur m⟩ a w/\eJ st.heap (eR cur m)/\aI EH S' w tv.av v:=by
 unfold wy at ht;split at ht
 ·obtain⟨p,h1,h2⟩:=Option.map_eq_some_iff.1 ht
  cases h2;cases hx with|c hx=>
  obtain⟨S',e1,e2,e3,e4⟩:=pV h hm hx h1;exact⟨S',e1,e2,e3,.c (.t e4)⟩
 ·obtain⟨p,h1,h2⟩:=Option.map_eq_some_iff.1 ht
  cases h2;obtain⟨vs,rfl,hl,hr⟩:=hx.Cp;obtain⟨S',e1,e2,e3,e4,e5⟩:=gF _ vs cur S _ _ h hm hl hr h1;refine⟨S',e1,e2,e3,.agg vs (by simp[TV.av,e4,hl]) fun i c hi=>?_⟩;obtain⟨t,ht,rfl⟩:=qZ hi;obtain⟨u,q1,q2⟩:=e5 i t ht;exact⟨u,q1,.t q2⟩
 ·cases ht
theorem Vx {h:Hp}:∀ {cs:List Cell} {ts:List Tree} {m:List (Nat×Option aA)},bS h cs=some (ts,m)->m=[]->cs=ts.map .t
 | [],ts,m,h1,_=>by simp[bS]at h1;rw[h1.1];rfl
 | c::cs,ts,m,h1,hm=>by
  unfold bS at h1;split at h1
  ·rename_i t m1 ht
   split at h1
   ·rename_i OX m2 uC
    cases h1;simp at hm;have:=Vx uC hm.2;subst this;unfold toTree at ht;split at ht
    ·cases ht;rfl
    ·split at ht
     ·split at ht
      ·cases ht;simp at hm
      ·cases ht
     ·cases ht
    ·cases ht
   ·cases h1
  ·cases h1
theorem EJ {cur:bU} (h:Sat K β S ⟨st.tmps,cur⟩ a w) (h0:∀b ao,look st.heap b=some ao->∃R,β b=some R) (hm:eJ st.heap cur) {md:Mode} {x:AV} {v:Value} (hx:aI β S w x v) {arg:Arg} {m:List (Nat×Option aA)} {bk:bK} (ht:eG (look st.heap) md x=some (arg,m,bk)) :
  ∃S' R,(∀c o,S c o->S' c o)/\Sat K β S' ⟨st.tmps,eR cur m⟩ a w/\eJ st.heap (eR cur m)/\jC β st.heap S' w arg bk R v:=by
 unfold eG at ht;split at ht
 ·cases ht
  exact⟨S,⟨0,0,0,0⟩,fun _ _ hx=>hx,h,hm,.dA⟩
 ·obtain⟨p,h1,h2⟩:=Option.map_eq_some_iff.1 ht
  cases h2;obtain⟨S',e1,e2,e3,e4⟩:=EI h hm hx h1;exact⟨S',⟨0,0,0,0⟩,e1,e2,e3,.val e4⟩
 ·rename_i b off len
  split at ht
  ·rename_i sz rows g hb
   split at ht
   ·rename_i hle
    cases ht;cases hx with|c hx=>
    cases hx with|sl R base cap hR h1 h2 h3 h4 h5=>
    have hc:=h2 rfl;exact⟨S,_,fun _ _ hx=>hx,h,hm,.fu hb hR hle ⟨base,by simp;omega,fun h0=>h5 (by simp at h0;omega)⟩⟩
   ·cases ht
  ·cases ht
 ·rename_i sz b len
  split at ht
  ·rename_i lA rows hb
   split at ht
   ·rename_i hc
    obtain⟨rfl,rfl⟩:=hc;cases ht;cases hx with|c hx=>
    cases hx with|sl R base cap hR h1 h2 h3 h4 h5=>
    have hc:=h2 rfl;rw[Nat.zero_add]at hc;exact⟨S,_,fun _ _ hx=>hx,h,hm,.own hb hR ⟨base,by rw[hc],fun h0=>by have:=h5 (by omega);simpa using this⟩⟩
   ·cases ht
  ·cases ht
 ·rename_i sz
  cases ht;cases hx with|c hx=>
  cases hx with|t hx=>
  generalize hr:([]:List (List Tree))=rows at hx;cases hx with|aa _ _ base cb co ah cap val h1 h2 h3 h4 h5 QI h6 h7 h8=>
  subst hr;refine⟨S,_,fun _ _ hx=>hx,h,hm,.nil ⟨base,?_,by simp⟩⟩;simp[h4 rfl]
 ·rename_i b off len
  split at ht
  ·rename_i sz rows g hb
   split at ht
   ·rename_i hle
    cases ht;cases hx with|c hx=>
    cases hx with|sl R base cap hR h1 h2 h3 h4 h5=>
    have hc:=h2 rfl;exact⟨S,_,fun _ _ hx=>hx,h,hm,.fu hb hR hle ⟨base,by simp;omega,fun h0=>h5 (by simp at h0;omega)⟩⟩
   ·cases ht
  ·cases ht
 ·obtain⟨p,h1,h2⟩:=Option.map_eq_some_iff.1 ht
  cases h2;obtain⟨S',e1,e2,e3,e4⟩:=EI h hm hx h1;exact⟨S',⟨0,0,0,0⟩,e1,e2,e3,.val e4⟩
 ·rename_i b
  split at ht
  ·rename_i cells hb
   split at ht
   ·rename_i ts uC
    cases ht;cases hx with|c hx=>
    cases hx with|ptr R hR=>
    have:=Vx uC rfl;subst this;exact⟨S,R,fun _ _ hx=>hx,h,hm,.ref hb hR (by simp)⟩
   ·cases ht
  ·cases ht
 ·cases ht
theorem lM (h0:∀b ao,look st.heap b=some ao->∃R,β b=some R):∀(ms:List Mode) (xs:List AV) (aW:List Value) (cur:bU) (S:Place) (args:List Arg) (m:List (Nat×Option aA)) (dV:List bK),Sat K β S ⟨st.tmps,cur⟩ a w->eJ st.heap cur ->
  aW.length=xs.length->(∀(i:Nat) (x:AV),xs[i]?=some x->∃v,aW[i]?=some v/\aI β S w x v)->da (look st.heap) ms xs=some (args,m,dV) ->
  ∃S',(∀c o,S c o->S' c o)/\Sat K β S' ⟨st.tmps,eR cur m⟩ a w/\eJ st.heap (eR cur m)/\args.length=xs.length/\dV.length=xs.length /\
   ∃Rs:Nat->bZ,∀(i:Nat) (x:Arg),args[i]?=some x->∃b v,dV[i]?=some b/\aW[i]?=some v/\jC β st.heap S' w x b (Rs i) v
 | [],[],aW,cur,S,args,m,dV,h,hm,_,_,ht=>by
  simp[da]at ht;obtain⟨rfl,rfl,rfl⟩:=ht;exact⟨S,fun _ _ hx=>hx,h,hm,rfl,rfl,fun _=>⟨0,0,0,0⟩,by simp⟩
 | [],_::_,_,_,_,_,_,_,_,_,_,_,ht=>by simp[da]at ht
 | _::_,[],_,_,_,_,_,_,_,_,_,_,ht=>by simp[da]at ht
 | md::ms,x::xs,[],_,_,_,_,_,_,_,hl,_,_=>by simp at hl
 | md::ms,x::xs,v::aW,cur,S,args,m,dV,h,hm,hl,hr,ht=>by
  unfold da at ht;split at ht
  ·rename_i a1 k1 b1 as ks bs h1 h2
   cases ht;obtain⟨v',sV,hx⟩:=hr 0 x rfl;simp at sV;subst sV;obtain⟨S1,R1,e1,e2,e3,e4⟩:=EJ h h0 hm hx h1;obtain⟨S2,f1,f2,f3,f4,f5,Rs,f6⟩:=lM h0 ms xs aW _ S1 _ _ _ e2 e3 (by simpa using hl) (fun i y hi=>by
    obtain⟨u,q1,q2⟩:=hr (i+1) y (by simpa using hi);exact⟨u,by simpa using q1,q2.mono (fun _ _ hx=>hx) e1 fun _ _ _=>rfl⟩) h2
   refine⟨S2,fun c o hx=>f1 _ _ (e1 _ _ hx),by rw[GJ];exact f2,by rw[GJ];exact f3,by simp[f4],by simp[f5],fun i=>match i with|0=>R1|i+1=>Rs i,fun i y hi=>?_⟩;cases i with
   | zero=>simp at hi;subst hi;exact⟨b1,v,rfl,rfl,e4.mono f1⟩
   | succ i=>simpa using f6 i y (by simpa using hi)
  ·cases ht
theorem Lv {b:Nat}:∀(m:List (Nat×Option aA)) (h:bU),b ∉ ids m->look (eR h m) b=look h b
 | [],_,_=>rfl
 | p::m,h,hn=>by
  simp only[ids,List.map_cons,List.mem_cons,not_or]at hn;rw[iV,Lv m _ hn.2,tu hn.1]
theorem jC.uF {heap:bU} {x:Arg} {b:bK} {R:bZ} {v:Value} (hl:jC β heap S w x b R v) (h:Sat K β S ⟨st.tmps,heap⟩ a w) :
  QS S w R x v/\∀ao,x.ao=some ao->(∃bi B RB,b.id=some bi/\look heap bi=some B/\β bi=some RB/\(∀c o,ao.ext R c o->B.ext RB c o)/\(∀c o,ao.wr R c o->B.wr RB c o))∨(b.id=none/\∀c o,¬ao.ext R c o):=by
 cases hl with
 | val hv=>exact⟨hv,fun ao hb=>by cases hb⟩
 | fu hb hR hle hs=>
  rename_i sz b off len rows g R0;obtain⟨R',e1,⟨q0,q1,q2,q3,R9,q4,q5,q6⟩,e4,e5⟩:=h.ao _ _ hb;rw[hR]at e1;cases e1;have GK:((rows.drop off).take len).length=len:=by rw[List.length_take,List.length_drop];omega
  have Ak:(off+len)*R0.ah<=rows.length*R0.ah:=Nat.mul_le_mul_right _ hle;rw[Nat.add_mul]at Ak;have JK:rows.length*R0.ah<=(if g=true then R0.cap else rows.length)*R0.ah:=Nat.mul_le_mul_right _ (by split<;>omega);refine⟨⟨by rw[GK];exact hs,q0,(fun r hr=>q1 r (ra hr)),(by rw[GK];show len<=R0.cap-off;omega),(by show R0.cap-off<2^63;omega),(by rw[GK];omega),?_,fun i j t ht=>?_,by simp⟩,fun ao pZ=>?_⟩
  ·intro o h1 h2
   simp only[GK,Bool.false_eq_true,if_false]at h2;have QJ:R0.co+off*R0.ah<=o:=h1;have IH:o<R0.co+off*R0.ah+len*R0.ah:=h2;exact q4 o (by omega) (by omega)
  ·obtain⟨u,f1,f2⟩:=q5 _ _ _ (gN ht).2
   refine⟨u,?_,f2⟩;simp only;rw[Nat.add_mul,<-Nat.add_assoc]at f1;exact f1
  ·cases pZ
   refine .inl ⟨_,_,R0,rfl,hb,hR,?_,?_⟩
   ·rintro c o ⟨h1,h2,h3⟩
    simp only[GK,Bool.false_eq_true,if_false]at h2 h3;exact⟨h1,by omega,by omega⟩
   ·rintro c o ⟨h1,h2,h3⟩
    simp only[GK,Bool.false_eq_true,if_false]at h2 h3;exact⟨h1,by simp;omega,by omega⟩
 | own hb hR hs=>
  obtain⟨R',e1,q,e4,e5⟩:=h.ao _ _ hb;rw[hR]at e1;cases e1;refine⟨⟨hs,q⟩,fun ao pZ=>?_⟩;cases pZ;exact .inl ⟨_,_,R,rfl,hb,hR,fun _ _ hx=>hx,fun _ _ hx=>hx⟩
 | nil hs=>
  refine⟨⟨hs,rfl,(fun r hr=>by cases hr),Nat.le_refl _,(by show 0<2^63;omega),(by show 0<2^60;omega),(fun o h1 h2=>absurd h2 (by simp)),(fun i j t ht=>by simp[fo]at ht),(fun hh=>by cases hh)⟩,fun ao pZ=>?_⟩;cases pZ;refine .inr ⟨rfl,?_⟩
  rintro c o ⟨h1,h2,h3⟩
  simp at h3
 | ref hb hR hv=>
  obtain⟨R',e1,q,e4,e5⟩:=h.ao _ _ hb;rw[hR]at e1;cases e1;refine⟨⟨hv,q.1,fun j c hj=>?_⟩,fun ao pZ=>?_⟩
  ·obtain⟨u,f1,f2⟩:=q.2 j c hj
   obtain⟨t,ht,rfl⟩:=qZ hj;refine⟨u,f1,?_⟩;cases f2 with|t f2=>exact .t f2
  ·cases pZ
   exact .inl ⟨_,_,R,rfl,hb,hR,fun _ _ hx=>hx,fun _ _ hx=>hx⟩
 | dA=>exact⟨trivial,fun ao hb=>by cases hb⟩
 | gh hb hR hv=>
  obtain⟨R',e1,q,e4,e5⟩:=h.ao _ _ hb;rw[hR]at e1;cases e1;refine⟨⟨hv,q.1,fun j c hj=>?_⟩,fun ao pZ=>?_⟩
  ·obtain⟨u,f1,f2⟩:=q.2 j c hj
   obtain⟨t,ht,rfl⟩:=qZ hj;refine⟨u,f1,?_⟩;cases f2 with|t f2=>exact .t f2
  ·cases pZ
   exact .inl ⟨_,_,R,rfl,hb,hR,fun _ _ hx=>hx,fun _ _ hx=>hx⟩
theorem qb {heap:bU} {args:List Arg} {dV:List bK} {aW:List Value} {Rs:Nat->bZ} (h:Sat K β S ⟨st.tmps,heap⟩ a w) (hl:aW.length=args.length) (oU:(dV.filterMap bK.id).Nodup)
  (kN:∀(i:Nat) (x:Arg),args[i]?=some x->∃b v,dV[i]?=some b/\aW[i]?=some v/\jC β heap S w x b (Rs i) v)
  (O5:∀(i:Nat) (f:FuncId) (aN:List (Nat×Nat×Nat)) (v:Value),args[i]?=some (.dA f aN)->aW[i]?=some v->dv (βA args Rs) S w (.dA f aN) v):ox args S w aW Rs:=by
 refine⟨hl,fun i x hi=>?_,h.sT,fun i x ao hi hb=>?_,fun i j x y b b' Ed hi hj hb bQ c o h1 h2=>?_,O5⟩
 ·obtain⟨b,v,_,e2,e3⟩:=kN i x hi
  exact⟨v,e2,(e3.uF h).1⟩
 ·obtain⟨b,v,_,e2,e3⟩:=kN i x hi
  rcases(e3.uF h).2 ao hb with⟨bi,B,RB,f1,f2,f3,f4,f5⟩|⟨_,f2⟩
  ·obtain⟨R',g1,_,g3,g4⟩:=h.ao _ _ f2
   rw[f3]at g1;cases g1;exact⟨fun c o hx=>(g3 c o (f4 c o hx)).1,fun c o hx=>g4 c o (f5 c o hx)⟩
  ·exact⟨fun c o hx=>absurd hx (f2 c o),fun c o hx=>absurd (aA.fL hx) (f2 c o)⟩
 ·obtain⟨b1,v1,e0,_,e1⟩:=kN i x hi
  obtain⟨b2,v2,Vy,_,e2⟩:=kN j y hj;rcases(e1.uF h).2 b hb with⟨bi,B,RB,f1,f2,f3,f4,f5⟩|⟨_,f⟩
  ·rcases(e2.uF h).2 b' bQ with⟨bi',B',Sk,Up,f2',f3',f4',f5'⟩|⟨_,f⟩
   ·have dh:bi≠bi':=by
     rintro rfl
     have key:∀(l:List bK) (i j:Nat) (x y:bK),i<j->l[i]?=some x->l[j]?=some y->x.id=some bi->y.id=some bi->¬(l.filterMap bK.id).Nodup:=by
      intro l
      induction l with
      | nil=>intro i j x y _ hi _ _ _;simp at hi
      | cons z l ih=>
       intro i j x y bJ hi hj hx hy oU;cases j with
       | zero=>omega
       | succ j=>
        cases i with
        | zero=>
         simp at hi hj;subst hi;rw[List.filterMap_cons,hx]at oU;simp only[List.nodup_cons]at oU;exact oU.1 (List.mem_filterMap.2 ⟨y,List.mem_of_getElem? hj,hy⟩)
        | succ i=>
         refine ih i j x y (by omega) (by simpa using hi) (by simpa using hj) hx hy ?_;rw[List.filterMap_cons]at oU;split at oU
         ·exact oU
         ·exact(List.nodup_cons.1 oU).2
     rcases Nat.lt_or_ge i j with bJ|Gx
     ·exact key dV i j b1 b2 bJ e0 Vy f1 Up oU
     ·exact key dV j i b2 b1 (by omega) Vy e0 Up f1 oU
    exact h.mK bi bi' B B' RB Sk dh f2 f2' f3 f3' c o (f4 c o h1) (f4' c o h2)
   ·exact f c o h2
  ·exact f c o h1
end
section
variable {P:Program} {C:eA} {K:Ctx} {β:Nat->Option bZ} {S:Place} {st:St} {a:Act} {w:World} {slot:Nat} {e:cR} {o:Oper} {f:FuncId}
theorem jC.heap {h1 h2:bU} {x:Arg} {b:bK} {R:bZ} {v:Value} (hl:jC β h1 S w x b R v) (hh:∀bi,b.id=some bi->look h2 bi=look h1 bi):jC β h2 S w x b R v:=by
 cases hl with
 | val h=>exact .val h
 | fu e1 e2 e3 e4=>exact .fu (by rw[hh _ rfl];exact e1) e2 e3 e4
 | own e1 e2 e3=>exact .own (by rw[hh _ rfl];exact e1) e2 e3
 | nil h=>exact .nil h
 | ref e1 e2 e3=>exact .ref (by rw[hh _ rfl];exact e1) e2 e3
 | dA=>exact .dA
 | gh e1 e2 e3=>exact .gh (by rw[hh _ rfl];exact e1) e2 e3
theorem wz {l:List AV} {vs:List Value} (hl:vs.length=l.length) (hr:∀(i:Nat) (x:AV),l[i]?=some x->∃v,vs[i]?=some v/\aI β S w x v) :
  aI β S w (He l) (if vs.length=1 then vs.getD 0 undef else .tuple vs.toArray):=by
 unfold He;split
 ·rename_i x
  obtain⟨v,h1,h2⟩:=hr 0 x rfl;rw[if_pos (by simpa using hl)];simpa[List.getD,h1]using h2
 ·rename_i dh
  have:vs.length≠1:=by
   intro h1;rw[h1]at hl
   match l,hl with
   | [x],_=>exact dh x rfl
  rw[if_neg this];refine .pN vs (fun i=>vs.getD i undef) hl (fun i x hi=>?_) fun i x hi=>?_
  ·obtain⟨v,h1,h2⟩:=hr i x hi
   simp[List.getD,h1]
  ·obtain⟨v,h1,h2⟩:=hr i x hi
   simpa[List.getD,h1]using h2
theorem Hf {x:TV} (hx:x.scalar=true) {S':Place} {w':World} {v:Value} (h:aI EH S' w' x.av v):aI β S w x.av v:=by
 unfold TV.scalar at hx;split at hx
 ·obtain⟨rfl,h2⟩:=h.scalar
  exact .c (.t (.v _ h2))
 ·rename_i l
  obtain⟨vs,rfl,h1,h2⟩:=h.Cp;refine .agg vs h1 fun i c hi=>?_
  obtain⟨v,e1,e2⟩:=h2 i c hi;obtain⟨t,ht,rfl⟩:=qZ hi;have:=List.all_eq_true.1 hx t (List.mem_of_getElem? ht);split at this
  ·refine⟨v,e1,.t ?_⟩
   cases e2 with|t e2=>cases e2 with|v _ h=>exact .v _ h
  ·cases this
 ·cases hx
theorem uG:∀(l:List RC) (slot:Nat),l.all RC.scalar=true->(ek slot l).1.length=l.length/\∀(i:Nat) (x:AV),(ek slot l).1[i]?=some x->∃tv:TV,l[i]?=some (.val tv)/\x=tv.av/\tv.scalar=true
 | [],_,_=>⟨rfl,by simp[ek]⟩
 | .val tv::l,slot,h=>by
  simp only[List.all_cons,Bool.and_eq_true]at h;obtain⟨h1,h2⟩:=uG l slot h.2;refine⟨by simp[ek,h1],fun i x hi=>?_⟩;cases i with
  | zero=>simp[ek]at hi;exact⟨tv,rfl,hi.symm,h.1⟩
  | succ i=>simpa using h2 i x (by simpa[ek]using hi)
 | .own _ _::l,slot,h=>by simp[RC.scalar]at h
theorem Sat.Vz (h:Sat K β S st a w) (hs:slot<st.heap.length) (hf:β slot=none) {ao:aA} {R:bZ}
  (je:eH (fun b=>if b=slot then some R else β b) S w K.B0 R ao) (hx:∀c o,ao.ext R c o->c<w.heap.size/\(K.B0<=c∨K.W c o)) (GH:∀c o,ao.wr R c o->¬S c o)
  (ZZ:∀b dj R',look st.heap b=some dj->β b=some R'->∀c o,dj.ext R' c o->¬ao.ext R c o) :
  Sat K (fun b=>if b=slot then some R else β b) S ⟨st.tmps,st.heap.set slot (some ao)⟩ a w:=by
 have hβ:∀b R',β b=some R'->(if b=slot then some R else β b)=some R':=by
  intro b R' hb;split
  ·rename_i wh;subst wh;rw[hf]at hb;cases hb
  ·exact hb
 refine h.step (Wr:=fun _ _=>False) (fun b=>b=slot) (fp.refl _ _) (fun _ _ hx=>hx.elim) hβ (fun b R' hb=>?_) (fun _ _ hx=>hx) (fun c o hc=>.inl hc) (fun b dj hD hb=>?_) (fun b dj hD hb=>?_)
 ·simp only[List.length_set]
  by_cases wh:b=slot
  ·omega
  ·rw[if_neg wh]at hb;exact h.top b R' hb
 ·rw[tu hD]at hb;exact hb
 ·subst hD
  rw[An hs]at hb;cases hb;refine⟨R,by simp,je,hx,GH,fun b' iU R' dh bQ ia c o hy hz=>?_⟩;rw[tu dh]at bQ;rw[if_neg dh]at ia;exact ZZ b' iU R' bQ ia c o hz hy
theorem eH.vA {β':Nat->Option bZ} {B B':Nat} {R:bZ} {ts:List Cell} (h:eH EH S w B R (.var ts)):eH β' S w B' R (.var ts):=
 ⟨h.1,fun j c hj=>by obtain⟨v,e1,e2⟩:=h.2 j c hj;exact⟨v,e1,e2.mono (fun _ _ hx=>by cases hx) (fun _ _ hx=>hx) fun _ _ _=>rfl⟩⟩
theorem wA:∀(l:List RC) (us:List Value) (k0:Nat) (Rr:Nat->bZ) (slot:Nat) (β:Nat->Option bZ) (heap:bU),Sat K β S ⟨st.tmps,heap⟩ a w ->
  us.length=l.length->(∀(k:Nat) (r:RC),l[k]?=some r->∃u,us[k]?=some u/\Vw S w (Rr (k0+k)) r u) ->
  slot+(l.filter RC.nr).length<=heap.length->(∀b,slot<=b->b<slot+(l.filter RC.nr).length->β b=none) ->
  (∀(k sz:Nat) (rows:List (List Tree)),l[k]?=some (.own sz rows)->(∀c o,(aA.rows sz rows true false).ext (Rr (k0+k)) c o->c<w.heap.size/\(K.B0<=c∨K.W c o))/\(∀c o,(aA.rows sz rows true false).wr (Rr (k0+k)) c o->¬S c o)) ->
  (∀(k j sz lA:Nat) (rows dy:List (List Tree)),k≠j->l[k]?=some (.own sz rows)->l[j]?=some (.own lA dy)->∀c o,(aA.rows sz rows true false).ext (Rr (k0+k)) c o->¬(aA.rows lA dy true false).ext (Rr (k0+j)) c o) ->
  (∀(k sz:Nat) (rows:List (List Tree)),l[k]?=some (.own sz rows)->∀b dj R',look heap b=some dj->β b=some R'->∀c o,dj.ext R' c o->¬(aA.rows sz rows true false).ext (Rr (k0+k)) c o) ->
  ∃β',(∀b,b<slot∨slot+(l.filter RC.nr).length<=b->β' b=β b)/\(∀b R,β b=some R->β' b=some R)/\Sat K β' S ⟨st.tmps,eR heap (ek slot l).2⟩ a w /\
   (ek slot l).1.length=l.length/\∀(i:Nat) (x:AV),(ek slot l).1[i]?=some x->∃u,us[i]?=some u/\aI β' S w x u
 | [],us,k0,Rr,slot,β,heap,h,_,_,_,_,_,_,_=>⟨β,fun _ _=>rfl,fun _ _ hx=>hx,h,rfl,by simp[ek]⟩
 | r::l,[],_,_,_,_,_,_,hl,_,_,_,_,_,_=>by simp at hl
 | r::l,u::us,k0,Rr,slot,β,heap,h,hl,hr,hlen,hf,hx,VA,hd=>by
  obtain⟨u',hu',X9⟩:=hr 0 r rfl;simp at hu';subst hu';have shift:∀k,k0+(k+1)=k0+1+k:=fun k=>by omega
  cases r with
  | val tv=>
   obtain⟨β',e1,Vi,e2,e3,e4⟩:=wA l us (k0+1) Rr slot β heap h (by simpa using hl) (fun k r hk=>by
    obtain⟨u,q1,q2⟩:=hr (k+1) r (by simpa using hk);exact⟨u,by simpa using q1,by rw[<-shift];exact q2⟩) (by simpa[RC.nr]using hlen) (by simpa[RC.nr]using hf) (fun k sz rows hk=>by rw[<-shift];exact hx (k+1) sz rows (by simpa using hk))
    (fun k j sz lA rows dy dh hk hj=>by rw[<-shift,<-shift];exact VA (k+1) (j+1) sz lA rows dy (by omega) (by simpa using hk) (by simpa using hj))
    (fun k sz rows hk=>by rw[<-shift];exact hd (k+1) sz rows (by simpa using hk))
   refine⟨β',by simpa[RC.nr]using e1,Vi,e2,by simp[ek,e3],fun i x hi=>?_⟩;cases i with
   | zero=>
    simp[ek]at hi;subst hi;exact⟨u,rfl,aI.mono X9 (fun _ _ hx=>by cases hx) (fun _ _ hx=>hx) fun _ _ _=>rfl⟩
   | succ i=>simpa using e4 i x (by simpa[ek]using hi)
  | own sz rows=>
   simp only[List.filter_cons,RC.nr,if_true,List.length_cons]at hlen hf;obtain⟨h1,h2⟩:=hx 0 sz rows rfl;have Gz:=hf slot (Nat.le_refl _) (by omega);have h3:=h.Vz (slot:=slot) (by show slot<heap.length;omega) Gz (ao:=.rows sz rows true false) (R:=Rr (k0+0)) X9.2 h1 h2 (hd 0 sz rows rfl);obtain⟨β',e1,Vi,e2,e3,e4⟩:=wA l us (k0+1) Rr (slot+1) _ _ h3 (by simpa using hl) (fun k r hk=>by
    obtain⟨u,q1,q2⟩:=hr (k+1) r (by simpa using hk);exact⟨u,by simpa using q1,by rw[<-shift];exact q2⟩) (by simp;omega) (fun b hb nk=>by simp only[if_neg (show b≠slot by omega)];exact hf b (by omega) (by omega)) (fun k sz rows hk=>by rw[<-shift];exact hx (k+1) sz rows (by simpa using hk))
    (fun k j sz lA rows dy dh hk hj=>by rw[<-shift,<-shift];exact VA (k+1) (j+1) sz lA rows dy (by omega) (by simpa using hk) (by simpa using hj))
    (fun k lA dy hk b dj R' hb hR c o hy=>by
     rw[<-shift]
     by_cases wh:b=slot
     ·subst wh
      rw[An (by show b<heap.length;omega)]at hb;cases hb;simp only[if_true]at hR;cases hR;exact VA 0 (k+1) sz lA rows dy (by omega) rfl (by simpa using hk) c o hy
     ·rw[tu wh]at hb
      rw[if_neg wh]at hR;exact hd (k+1) lA dy (by simpa using hk) b dj R' hb hR c o hy)
   have JO:∀b R,β b=some R->β' b=some R:=fun b R hb=>Vi b R (by rw[if_neg (by rintro rfl;rw[Gz]at hb;cases hb)];exact hb)
   refine⟨β',fun b hb=>?_,JO,e2,by simp[ek,e3],fun i x hi=>?_⟩
   ·simp only[List.filter_cons,RC.nr,if_true,List.length_cons]at hb
    rw[e1 b (by omega),if_neg (by omega)]
   ·cases i with
    | zero=>
     simp[ek]at hi;subst hi;obtain⟨base,q1,q2⟩:=X9.1;refine⟨u,rfl,?_⟩;rw[q1];have hle:rows.length<=(Rr (k0+0)).cap:=X9.2.2.2.1;exact .c (.sl (Rr (k0+0)) base _ (Vi _ _ (by simp)) (fun hh=>by cases hh) (fun _=>by omega) hle (by omega) (fun h0=>by simpa using q2 h0))
    | succ i=>simpa using e4 i x (by simpa[ek]using hi)
end
def tz (h:Hp) (h':bU):bK->Option aA->Prop
 | .none,_=>True
 | .own b,_=>look h' b=none
 | .fu b off len,o=>∃sz r rows g,o=some (.rows sz r false false)/\h b=some (.rows sz rows g false)/\r.length=len/\look h' b=some (.rows sz (aZ rows off r) g false)
 | .ref b,o=>∃cs gL,o=some (.var cs)/\h b=some (.var gL)/\cs.length=gL.length/\look h' b=some (.var cs)
theorem tz.heap {h:Hp} {h1 h2:bU} {b:bK} {o:Option aA} (hb:tz h h1 b o) (he:∀i,b.id=some i->look h2 i=look h1 i):tz h h2 b o:=by
 cases b with
 | none=>trivial
 | own b=>show look h2 b=none;rw[he b rfl];exact hb
 | fu b off len=>obtain⟨sz,r,rows,g,e1,e2,e3,e4⟩:=hb;exact⟨sz,r,rows,g,e1,e2,e3,by rw[he b rfl];exact e4⟩
 | ref b=>obtain⟨cs,gL,e1,e2,e3,e4⟩:=hb;exact⟨cs,gL,e1,e2,e3,by rw[he b rfl];exact e4⟩
theorem nt {h:Hp}:∀(dV:List bK) (outs:List (Option aA)) (bw:List (Nat×Option aA)) (heap:bU),dB h dV outs=some bw->(dV.filterMap bK.id).Nodup->(∀i∈dV.filterMap bK.id,i<heap.length) ->
  outs.length=dV.length/\(∀i,i ∉ dV.filterMap bK.id->look (eR heap bw) i=look heap i)/\∀(i:Nat) (b:bK),dV[i]?=some b->∃o,outs[i]?=some o/\tz h (eR heap bw) b o
 | [],[],bw,heap,hb,_,_=>by
  simp[dB]at hb;subst hb;exact⟨rfl,fun _ _=>rfl,by simp⟩
 | [],_::_,_,_,hb,_,_=>by simp[dB]at hb
 | b::dV,[],_,_,hb,_,_=>by cases b<;>simp[dB]at hb
 | b::dV,o::outs,bw,heap,hb,oU,bJ=>by
  have Md:∀(bi:Nat) (x:Option aA) (Oj:List (Nat×Option aA)),b.id=some bi->dB h dV outs=some Oj->bw=(bi,x)::Oj->(∀h',look h' bi=x->tz h h' b o) ->
    (o::outs).length=(b::dV).length/\(∀i,i ∉ (b::dV).filterMap bK.id->look (eR heap bw) i=look heap i)/\∀(i:Nat) (b':bK),(b::dV)[i]?=some b'->∃o',(o::outs)[i]?=some o'/\tz h (eR heap bw) b' o':=by
   rintro bi x Oj JV Z0 rfl Uq
   rw[List.filterMap_cons,JV]at oU bJ;simp only[List.nodup_cons,List.mem_cons,forall_eq_or_imp]at oU bJ;obtain⟨h1,h2,h3⟩:=nt dV outs Oj (heap.set bi x) Z0 oU.2 (fun i hi=>by simpa using bJ.2 i hi);rw[iV];refine⟨by simp[h1],fun i hi=>?_,fun i b' hi=>?_⟩
   ·rw[List.filterMap_cons,JV]at hi
    simp only[List.mem_cons,not_or]at hi;rw[h2 i hi.2,tu hi.1]
   ·cases i with
    | zero=>
     simp at hi;subst hi;exact⟨o,rfl,Uq _ (by rw[h2 bi oU.1,An bJ.1])⟩
    | succ i=>simpa using h3 i b' (by simpa using hi)
  cases b with
  | none=>
   simp only[dB]at hb;rw[List.filterMap_cons]at oU bJ;obtain⟨h1,h2,h3⟩:=nt dV outs bw heap hb (by simpa[bK.id]using oU) (by simpa[bK.id]using bJ);refine⟨by simp[h1],fun i hi=>h2 i (by simpa[List.filterMap_cons,bK.id]using hi),fun i b' hi=>?_⟩;cases i with
   | zero=>simp at hi;subst hi;exact⟨o,rfl,trivial⟩
   | succ i=>simpa using h3 i b' (by simpa using hi)
  | own b=>
   simp only[dB]at hb;obtain⟨Oj,h1,h2⟩:=Option.map_eq_some_iff.1 hb;exact Md b none Oj rfl h1 h2.symm fun h' hl=>hl
  | fu b off len=>
   unfold dB at hb;split at hb<;>try (cases hb;done)
   all_goals (rename_i Me Sl;try (cases Me;done))
   ·cases Me;cases Sl
    split at hb
    ·rename_i lA rows g g8
     split at hb
     ·rename_i hc
      obtain⟨rfl,yv⟩:=hc;obtain⟨Oj,h1,h2⟩:=Option.map_eq_some_iff.1 hb;exact Md b _ Oj rfl h1 h2.symm fun h' hl=>⟨_,_,_,_,rfl,g8,yv,hl⟩
     ·cases hb
    ·cases hb
  | ref b=>
   unfold dB at hb;split at hb<;>try (cases hb;done)
   all_goals (rename_i Me Sl;try (cases Me;done))
   ·cases Me;cases Sl
    split at hb
    ·rename_i gL g8
     split at hb
     ·rename_i hc
      obtain⟨Oj,h1,h2⟩:=Option.map_eq_some_iff.1 hb;exact Md b _ Oj rfl h1 h2.symm fun h' hl=>⟨_,_,rfl,g8,hc,hl⟩
     ·cases hb
    ·cases hb
section
variable {P:Program} {C:eA} {K:Ctx} {β:Nat->Option bZ} {S:Place} {st:St} {a:Act} {w:World} {slot:Nat} {e:cR} {o:Oper} {f:FuncId}
theorem Au {bi:Nat}:∀(l:List bK) (i j:Nat) (x y:bK),(l.filterMap bK.id).Nodup->l[i]?=some x->l[j]?=some y->x.id=some bi->y.id=some bi->i=j
 | [],i,_,x,_,_,hi,_,_,_=>by simp at hi
 | z::l,i,j,x,y,oU,hi,hj,hx,hy=>by
  have tail:(l.filterMap bK.id).Nodup:=by
   rw[List.filterMap_cons]at oU;split at oU
   ·exact oU
   ·exact(List.nodup_cons.1 oU).2
  have head:∀(k:Nat) (u:bK),l[k]?=some u->u.id=some bi->z.id=some bi->False:=by
   intro k u hk hu hz;rw[List.filterMap_cons,hz]at oU;exact(List.nodup_cons.1 oU).1 (List.mem_filterMap.2 ⟨u,List.mem_of_getElem? hk,hu⟩)
  cases i with
  | zero=>
   cases j with
   | zero=>rfl
   | succ j=>simp at hi hj;subst hi;exact(head j y hj hy hx).elim
  | succ i=>
   cases j with
   | zero=>simp at hi hj;subst hj;exact(head i x hi hx hy).elim
   | succ j=>rw[Au l i j x y tail (by simpa using hi) (by simpa using hj) hx hy]
theorem fp.there {W:Place} {w w':World} (h:fp W w w') {cb co n:Nat} (ht:there w cb co n):there w' cb co n:=by
 intro o h1 h2;obtain⟨e1,e2⟩:=ht o h1 h2;unfold World.cell? at e1;unfold World.frozen? at e2;cases hg:w.heap[cb]? with
 | none=>rw[hg]at e1;simp at e1
 | some ob=>
  cases ob with
  | cells c el fr=>
   obtain⟨c',f1,f2,f3⟩:=h.obj cb _ hg;simp only[hg]at e1 e2;unfold World.cell? World.frozen?;simp only[f1];refine⟨?_,e2⟩;simp only[Option.isSome_none,Bool.false_eq_true,if_false]at e1 ⊢;have bJ:o<c.size:=by
    rcases Nat.lt_or_ge o c.size with h|h
    ·exact h
    ·rw[Array.getElem?_eq_none h]at e1;cases e1
   rw[Array.getElem?_eq_getElem (by omega)];rfl
  | _=>rw[hg]at e1;simp at e1
theorem rj {h:Hp}:∀ {ms:List Mode} {xs:List AV} {as:List Arg} {ks:List (Nat×Option aA)} {bs:List bK},da h ms xs=some (as,ks,bs) ->
  as.length=xs.length/\(∀x∈as,∀ts,x ≠ .gh ts)/\∀(i:Nat) (f:FuncId) (aN:List (Nat×Nat×Nat)),as[i]?=some (.dA f aN)->xs[i]?=some (.c (.dA f aN))
 | [],[],as,ks,bs,ht=>by simp[da]at ht;obtain⟨rfl,rfl,rfl⟩:=ht;exact⟨rfl,by simp,by simp⟩
 | [],_::_,_,_,_,ht=>by simp[da]at ht
 | _::_,[],_,_,_,ht=>by simp[da]at ht
 | md::ms,x::xs,as,ks,bs,ht=>by
  unfold da at ht;split at ht
  ·rename_i a1 k1 b1 as1 ks1 bs1 h1 h2
   cases ht;obtain⟨e1,e2,e3⟩:=rj h2;have key:(∀ts,a1 ≠ .gh ts)/\∀f aN,a1=.dA f aN->x=.c (.dA f aN):=by
    unfold eG at h1;split at h1
    ·cases h1;exact⟨fun ts h=>(by cases h),fun f aN h=>by cases h;rfl⟩
    ·obtain⟨p,_,q⟩:=Option.map_eq_some_iff.1 h1
     cases q;exact⟨fun ts h=>(by cases h),fun f aN h=>by cases h⟩
    ·split at h1
     ·split at h1
      ·cases h1;exact⟨fun ts h=>(by cases h),fun f aN h=>by cases h⟩
      ·cases h1
     ·cases h1
    ·split at h1
     ·split at h1
      ·cases h1;exact⟨fun ts h=>(by cases h),fun f aN h=>by cases h⟩
      ·cases h1
     ·cases h1
    ·cases h1;exact⟨fun ts h=>(by cases h),fun f aN h=>by cases h⟩
    ·split at h1
     ·split at h1
      ·cases h1;exact⟨fun ts h=>(by cases h),fun f aN h=>by cases h⟩
      ·cases h1
     ·cases h1
    ·obtain⟨p,_,q⟩:=Option.map_eq_some_iff.1 h1
     cases q;exact⟨fun ts h=>(by cases h),fun f aN h=>by cases h⟩
    ·split at h1
     ·split at h1
      ·cases h1;exact⟨fun ts h=>(by cases h),fun f aN h=>by cases h⟩
      ·cases h1
     ·cases h1
    ·cases h1
   refine⟨by simp[e1],fun y hy=>?_,fun i f aN hi=>?_⟩
   ·rcases List.mem_cons.1 hy with rfl|hy
    ·exact key.1
    ·exact e2 y hy
   ·cases i with
    | zero=>simp at hi;simp[key.2 f aN hi]
    | succ i=>simpa using e3 i f aN (by simpa using hi)
  ·cases ht
theorem CI:∀ {as:List Arg},(∀x∈as,∀ts,x ≠ .gh ts)->kM as=as.length
 | [],_=>rfl
 | x::as,h=>by
  have h1:=h x (.head _);have h2:=CI fun y hy=>h y (.tail _ hy)
  cases x with
  | gh ts=>exact absurd rfl (h1 ts)
  | _=>simp[kM,h2]
theorem IJ:∀ {as:List Arg} {ts:List Tree} {l:List Arg},(∀x∈as,∀ts,x ≠ .gh ts)->kM (as ++ .gh ts::l)=as.length
 | [],ts,l,_=>rfl
 | x::as,ts,l,h=>by
  have h1:=h x (.head _);have h2:=IJ (ts:=ts) (l:=l) fun y hy=>h y (.tail _ hy)
  cases x with
  | gh ts=>exact absurd rfl (h1 ts)
  | _=>simp[kM,h2]
theorem qe:∀(l:List (Nat×Nat×Nat)) (acc:List Nat),(∀b∈acc,b∈pX l acc)/\∀p∈l,p.1∈pX l acc
 | [],acc=>⟨fun _ h=>h,by simp⟩
 | (b,r,c)::l,acc=>by
  unfold pX;split
  ·rename_i hc
   obtain⟨h1,h2⟩:=qe l acc;refine⟨h1,fun p hp=>?_⟩;rcases List.mem_cons.1 hp with rfl|hp
   ·exact h1 _ (by simpa using hc)
   ·exact h2 p hp
  ·obtain⟨h1,h2⟩:=qe l (acc ++ [b])
   refine⟨fun x hx=>h1 x (by simp[hx]),fun p hp=>?_⟩;rcases List.mem_cons.1 hp with rfl|hp
   ·exact h1 _ (by simp)
   ·exact h2 p hp
theorem tA:∀(as:List Arg) (acc:List Nat),(∀b∈acc,b∈pk as acc)/\∀f aN,Arg.dA f aN∈as->∀p∈aN,p.1∈pk as acc
 | [],acc=>⟨fun _ h=>h,by simp⟩
 | x::as,acc=>by
  have other:pk (x::as) acc=pk as acc->(∀f aN,x ≠ .dA f aN)->(∀b∈acc,b∈pk (x::as) acc)/\∀f aN,Arg.dA f aN∈x::as->∀p∈aN,p.1∈pk (x::as) acc:=fun e hx=>by
   obtain⟨h1,h2⟩:=tA as acc;rw[e];refine⟨h1,fun f aN hm=>?_⟩;rcases List.mem_cons.1 hm with h|h
   ·exact absurd h.symm (hx f aN)
   ·exact h2 f aN h
  cases x with
  | dA g cs=>
   obtain⟨h1,h2⟩:=tA as (pX cs acc);obtain⟨k1,k2⟩:=qe cs acc;refine⟨fun b hb=>h1 b (k1 b hb),fun f aN hm p hp=>?_⟩;rcases List.mem_cons.1 hm with h|h
   ·cases h;exact h1 _ (k2 p hp)
   ·exact h2 f aN h p hp
  | val=>exact other rfl (by simp)
  | fu=>exact other rfl (by simp)
  | own=>exact other rfl (by simp)
  | ref=>exact other rfl (by simp)
  | gh=>exact other rfl (by simp)
theorem wC {b:Nat}:∀ {l:List Nat},b∈l->l[posOf b l]?=some b
 | [],h=>by cases h
 | x::l,h=>by
  unfold posOf;split
  ·rename_i hb;rw[Nat.eq_of_beq_eq_true hb];rfl
  ·rename_i hb
   rcases List.mem_cons.1 h with rfl|h
   ·rw[Nat.beq_refl]at hb;cases hb
   ·simpa using wC h
theorem Aw {gs:List Nat} {n:Nat}:∀(l:List (Nat×Nat×Nat)),(CH gs n l).length=l.length/\∀(i b r c:Nat),(CH gs n l)[i]?=some (b,r,c)->∃b0,l[i]?=some (b0,r,c)/\b=n+posOf b0 gs
 | []=>⟨rfl,by simp[CH]⟩
 | (b0,r0,c0)::l=>by
  obtain⟨h1,h2⟩:=Aw (gs:=gs) (n:=n) l;refine⟨by simp[CH,h1],fun i b r c hi=>?_⟩;cases i with
  | zero=>simp[CH]at hi;obtain⟨rfl,rfl,rfl⟩:=hi;exact⟨b0,rfl,rfl⟩
  | succ i=>simpa using h2 i b r c (by simpa[CH]using hi)
theorem Ax {gs:List Nat} {n:Nat}:∀(as:List Arg),(pY gs n as).length=as.length/\∀(i:Nat) (y:Arg),(pY gs n as)[i]?=some y->∃x,as[i]?=some x/\((x=y/\∀f aN,x ≠ .dA f aN)∨∃f aN,x=.dA f aN/\y=.dA f (CH gs n aN))
 | []=>⟨rfl,by simp[pY]⟩
 | x::as=>by
  obtain⟨h1,h2⟩:=Ax (gs:=gs) (n:=n) as;have hl:(pY gs n (x::as)).length=(x::as).length:=by cases x<;>simp[pY,h1]
  refine⟨hl,fun i y hi=>?_⟩;cases i with
  | zero=>
   refine⟨x,rfl,?_⟩;cases x with
   | dA f aN=>simp[pY]at hi;exact .inr ⟨f,aN,rfl,hi.symm⟩
   | _=>simp[pY]at hi;exact .inl ⟨hi,by simp⟩
  | succ i=>
   obtain⟨z,e1,e2⟩:=h2 i y (by cases x<;>simpa[pY]using hi);exact⟨z,by simpa using e1,e2⟩
theorem uH {h:Hp}:∀ {gs:List Nat} {As:List Arg},kr h gs=some As->As.length=gs.length/\∀(k b:Nat),gs[k]?=some b->∃ts,As[k]?=some (.gh ts)/\h b=some (.var (ts.map .t))
 | [],As,hg=>by simp[kr]at hg;subst hg;exact⟨rfl,by simp⟩
 | b::gs,As,hg=>by
  unfold kr at hg;split at hg
  ·rename_i cells hb
   split at hg
   ·rename_i ts as h1 h2
    cases hg;obtain⟨e1,e2⟩:=uH h2;refine⟨by simp[e1],fun k b' hk=>?_⟩;cases k with
    | zero=>simp at hk;subst hk;exact⟨ts,rfl,by rw[hb,Vx h1 rfl]⟩
    | succ k=>simpa using e2 k b' (by simpa using hk)
   ·cases hg
  ·cases hg
theorem Ay:∀(gs:List Nat),(ri gs).length=gs.length/\∀(k b:Nat),gs[k]?=some b->(ri gs)[k]?=some (.ref b)
 | []=>⟨rfl,by simp⟩
 | g::gs=>by
  obtain⟨h1,h2⟩:=Ay gs;refine⟨by simp[ri,h1],fun k b hk=>?_⟩;cases k with
  | zero=>simp at hk;subst hk;rfl
  | succ k=>simpa[ri]using h2 k b (by simpa using hk)
theorem CJ (h0:∀b ao,look st.heap b=some ao->∃R,β b=some R) {ms:List Mode} {xs:List AV} {aW:List Value} {args:List Arg} {m:List (Nat×Option aA)} {dV:List bK} (h:Sat K β S st a w)
  (hl:aW.length=xs.length) (hv:∀(i:Nat) (x:AV),xs[i]?=some x->∃v,aW[i]?=some v/\aI β S w x v) (ht:eW (look st.heap) ms xs=some (args,m,dV)) :
  ∃(S':Place) (wD:List Value),(∀c o,S c o->S' c o)/\Sat K β S' ⟨st.tmps,eR st.heap m⟩ a w/\eJ st.heap (eR st.heap m)/\args.length=wD.length/\dV.length=wD.length/\wD.take (kM args)=aW /\
   ∃Rs:Nat->bZ,(∀(i:Nat) (x:Arg),args[i]?=some x->∃b v,dV[i]?=some b/\wD[i]?=some v/\jC β st.heap S' w x b (Rs i) v) /\
    ∀(i:Nat) (f:FuncId) (aN:List (Nat×Nat×Nat)) (v:Value),args[i]?=some (.dA f aN)->wD[i]?=some v->dv (βA args Rs) S' w (.dA f aN) v:=by
 unfold eW at ht;split at ht
 ·cases ht
 rename_i as ks bs hp;obtain⟨S',hS,h1,hm,hal,Mf,Rs,kN⟩:=lM h0 ms xs aW st.heap S as ks bs h (eJ.refl _) hl hv hp;obtain⟨c1,c2,c3⟩:=rj hp;have raw:∀(i:Nat) (f:FuncId) (aN:List (Nat×Nat×Nat)) (v:Value),as[i]?=some (.dA f aN)->aW[i]?=some v->dv β S' w (.dA f aN) v:=fun i f aN v hi Ur=>by
  obtain⟨u,e1,e2⟩:=hv i _ (c3 i f aN hi);rw[Ur]at e1;cases e1;cases e2 with|c e2=>exact e2.mono (fun _ _ hx=>hx) hS fun _ _ _=>rfl
 obtain⟨_,gm⟩:=tA as [];split at ht
 ·rename_i hg
  cases ht;refine⟨S',aW,hS,h1,hm,by omega,by omega,by rw[CI c2,List.take_of_length_le (by omega)],Rs,kN,fun i f aN v hi Ur=>?_⟩;have r:=raw i f aN v hi Ur;have hc:aN=[]:=by
   cases aN with
   | nil=>rfl
   | cons p l=>
    have:=gm f (p::l) (List.mem_of_getElem? hi) p (.head _);rw[hg]at this;cases this
  subst hc;cases r with
  | dA vs e1 e2=>exact .dA vs e1 (by simp)
 ·rename_i g gs hg
  rw[hg]at gm;obtain⟨G,hG⟩:∃G,G=g::gs:=⟨_,rfl⟩;rw[<-hG]at ht gm;split at ht
  ·rename_i As Z5
   cases ht;obtain⟨g1,g2⟩:=uH Z5;obtain⟨f1,f2⟩:=Ay G;obtain⟨a1,a2⟩:=Ax (gs:=G) (n:=as.length) as;have hno:∀x∈pY G as.length as,∀ts,x ≠ .gh ts:=fun x hx ts he=>by
    obtain⟨i,hi⟩:=List.getElem?_of_mem hx;obtain⟨y,e1,e2⟩:=a2 i x hi;rcases e2 with⟨rfl,_⟩|⟨f,aN,_,rfl⟩
    ·exact c2 y (List.mem_of_getElem? e1) ts he
    ·cases he
   have hRb:∀(k b:Nat),G[k]?=some b->∃R,β b=some R:=fun k b hk=>by
    obtain⟨ts,_,e⟩:=g2 k b hk;exact h0 b _ e
   obtain⟨rg,Sm⟩:∃rg:Nat->bZ,∀b R,β b=some R->rg b=R:=⟨fun b=>(β b).getD ⟨0,0,0,0⟩,fun b R hb=>by simp[hb]⟩;have Uo:kM (pY G as.length as++As)=as.length:=by
    obtain⟨ts,e1,_⟩:=g2 0 g (by rw[hG];rfl);obtain⟨x,l,rfl⟩:∃x l,As=x::l:=by
     cases As with
     | nil=>simp at e1
     | cons x l=>exact⟨x,l,rfl⟩
    simp at e1;subst e1;rw[IJ hno,a1]
   refine⟨S',aW++G.map fun b=>.pointer (some ⟨(rg b).cb,(rg b).co,none⟩),hS,h1,hm,by simp[a1,g1];omega,by simp[f1];omega,by rw[Uo,List.take_append_of_le_length (by omega),List.take_of_length_le (by omega)],
    fun i=>if i<as.length then Rs i else rg (G.getD (i-as.length) 0),fun i x hi=>?_,fun i f aN v hi Ur=>?_⟩
   ·rw[List.getElem?_append]at hi
    split at hi
    ·rename_i bJ
     rw[a1]at bJ;obtain⟨y,e1,e2⟩:=a2 i x hi;obtain⟨b,v,q1,q2,q3⟩:=kN i y e1;refine⟨b,v,by rw[List.getElem?_append_left (by omega)];exact q1,by rw[List.getElem?_append_left (by omega)];exact q2,?_⟩;simp only[if_pos bJ];rcases e2 with⟨rfl,_⟩|⟨f,aN,rfl,rfl⟩
     ·exact q3
     ·cases q3;exact .dA
    ·rename_i Gx
     rw[a1]at Gx hi;have hk:=uz hi;obtain⟨b,hb⟩:∃b,G[i-as.length]?=some b:=⟨_,List.getElem?_eq_getElem (by omega)⟩;obtain⟨ts,e1,e2⟩:=g2 _ b hb;obtain⟨R,hR⟩:=hRb _ b hb;rw[hi]at e1;cases e1;refine⟨.ref b,.pointer (some ⟨(rg b).cb,(rg b).co,none⟩),by rw[List.getElem?_append_right (by omega),Mf,<-c1];exact f2 _ b hb,by rw[List.getElem?_append_right (by omega),hl,<-c1,List.getElem?_map,hb];rfl,?_⟩
     have e3:G.getD (i-as.length) 0=b:=by rw[List.getD_eq_getElem?_getD,hb];rfl
     simp only[if_neg Gx,e3];rw[Sm b R hR];exact .gh e2 hR rfl
   ·rw[List.getElem?_append]at hi
    split at hi
    ·rename_i bJ
     rw[a1]at bJ;obtain⟨y,e1,e2⟩:=a2 i _ hi;rcases e2 with⟨rfl,e2⟩|⟨f',Sn,rfl,e2⟩
     ·exact absurd rfl (e2 f aN)
     ·cases e2
      rw[List.getElem?_append_left (by omega)]at Ur;have r:=raw i f Sn v e1 Ur;obtain⟨l1,l2⟩:=Aw (gs:=G) (n:=as.length) Sn;cases r with
      | dA vs q1 q2=>
       refine .dA vs (by rw[l1];exact q1) fun j b r c hj=>?_
       obtain⟨b0,k1,rfl⟩:=l2 j b r c hj;obtain⟨R,k2,k3⟩:=q2 j b0 r c k1;refine⟨R,?_,k3⟩;have yu:=wC (gm f Sn (List.mem_of_getElem? e1) _ (List.mem_of_getElem? k1));obtain⟨ts,m1,m2⟩:=g2 _ b0 yu;have e3:G.getD (as.length+posOf b0 G-as.length) 0=b0:=by rw[Nat.add_sub_cancel_left,List.getD_eq_getElem?_getD,yu];rfl
       unfold βA;rw[List.getElem?_append_right (by omega),a1,Nat.add_sub_cancel_left,m1];simp only[Option.bind_some,Arg.ao,Option.isSome_some,if_true];rw[if_neg (by omega),e3,Sm b0 R k2]
    ·rename_i Gx
     obtain⟨b,hb⟩:∃b,G[i-(pY G as.length as).length]?=some b:=⟨_,List.getElem?_eq_getElem (by have:=uz hi;omega)⟩;obtain⟨ts,e1,_⟩:=g2 _ b hb;rw[hi]at e1;cases e1
  ·cases ht
theorem Hg (h:Sat K β S st a w) {bL:List AV} {aW:List Value} (hl:aW.length=bL.length) (hv:∀(i:Nat) (x:AV),bL[i]?=some x->∃v,aW[i]?=some v/\aI β S w x v)
  {ms:List Mode} {args:List Arg} {marks:List (Nat×Option aA)} {dV:List bK} (hp:eW (look st.heap) ms bL=some (args,marks,dV)) {res:ko} (hc:eP P f args res)
  (hs:slot+2<=st.heap.length) (hf:∀b,slot<=b->b<slot+2->β b=none) (he:gO (look st.heap) slot marks dV res=some e) :
  Calls P f aW.toArray w fun en w'=>∃v β' S',en=.returned v/\(∀b,b<slot∨slot+2<=b->β' b=β b)/\Sat K β' S' ⟨st.tmps,eR st.heap e.wr⟩ a w'/\aI β' S' w' e.val v:=by
 obtain⟨S1,wD,QO,h1,hm,hal,Mf,QT,Rs,kN,O5⟩:=CJ (fun b ao hb=>by obtain⟨R,hR,_⟩:=h.ao b ao hb;exact⟨R,hR⟩) h hl hv hp;rw[<-QT];clear QT hl hv;generalize wD=aW at *;unfold gO at he;simp only at he;split at he
 ·rename_i Ya
  simp only[Bool.and_eq_true,List.isEmpty_iff]at Ya;obtain⟨Ya,O6⟩:=Ya;cases he;have QU:∀(i:Nat) (b:bK),dV[i]?=some b->b.id=none:=by
   intro i b hb;cases uI:b.id with
   | none=>rfl
   | some bi=>
    have:bi∈dV.filterMap bK.id:=List.mem_filterMap.2 ⟨b,List.mem_of_getElem? hb,uI⟩;rw[O6]at this;cases this
  have jD:∀(i:Nat) (x:Arg),args[i]?=some x->∃b v,dV[i]?=some b/\aW[i]?=some v/\jC β (eR st.heap marks) S1 w x b (Rs i) v:=by
   intro i x hi;obtain⟨b,v,e1,e2,e3⟩:=kN i x hi;exact⟨b,v,e1,e2,e3.heap fun bi hb=>by rw[QU i b e1]at hb;cases hb⟩
  have nu:=qb h1 (by omega) (by rw[O6];simp) jD O5;have fx:∀c o,¬nq args Rs c o:=by
   rintro c o ⟨i,x,ao,e1,e2,e3⟩
   obtain⟨b,v,f1,f2,f3⟩:=jD i x e1;rcases(f3.uF h1).2 ao e2 with⟨bi,B,RB,g1,_⟩|⟨_,g⟩
   ·rw[QU i b f1]at g1;cases g1
   ·exact g c o e3
  refine(hc.2 S1 w aW Rs nu).mono ?_
  rintro en w' ⟨v,rfl,⟨S',Rr,vs,p1,p2,p3,p4,p5,p6,_⟩⟩
  have hk:fp (fun _ _=>False) w w':=p3.mono fun c o _ hx=>absurd hx (fx c o)
  refine⟨v,β,S,rfl,fun _ _=>rfl,?_,?_⟩
  ·exact h.step (fun _=>False) hk (fun _ _ hx=>hx.elim) (fun _ _ hx=>hx) h.top (fun _ _ hx=>hx) (fun _ _ hx=>.inl hx) (fun _ _ _ hx=>hx) (fun _ _ hx=>hx.elim)
  ·obtain⟨q1,q2⟩:=uG res.aW slot Ya
   rw[p2];refine wz (by omega) fun i x hi=>?_
   obtain⟨tv,r1,rfl,r3⟩:=q2 i x hi;obtain⟨u,s1,s2⟩:=p6 i _ r1;exact⟨u,s1,Hf r3 s2⟩
 ·split at he
  ·cases he
  ·rename_i Ct
   simp only[Bool.or_eq_true,not_or,Bool.not_eq_true',Bool.not_eq_false]at Ct;obtain⟨⟨Z6,JW⟩,Z7⟩:=Ct;have oU:(dV.filterMap bK.id).Nodup:=by simpa using JW
   have aeR:(res.aW.filter RC.nr).length<=2:=by simpa using Z7
   have Ee:∀i∈dV.filterMap bK.id,i ∉ ids marks:=by
    intro i hi;have:=List.all_eq_true.1 Z6 i hi;simpa using this
   split at he
   ·rename_i bw Z0
    cases he;have Mg:∀i∈dV.filterMap bK.id,i<(eR st.heap marks).length:=by
     intro i hi;obtain⟨b,hb,uI⟩:=List.mem_filterMap.1 hi;obtain⟨k,hk⟩:=List.getElem?_of_mem hb;have tw:=uz hk;obtain⟨b',v,e1,e2,e3⟩:=kN k (args[k]'(by omega)) (List.getElem?_eq_getElem _);rw[hk]at e1;cases e1;rw[L0];generalize args[k]=x at e3;generalize Rs k=Rk at e3;cases e3 with
     | val=>cases uI
     | fu g1=>cases uI;exact tj g1
     | own g1=>cases uI;exact tj g1
     | nil=>cases uI
     | ref g1=>cases uI;exact tj g1
     | dA=>cases uI
     | gh g1=>cases uI;exact tj g1
    have jD:∀(i:Nat) (x:Arg),args[i]?=some x->∃b v,dV[i]?=some b/\aW[i]?=some v/\jC β (eR st.heap marks) S1 w x b (Rs i) v:=by
     intro i x hi;obtain⟨b,v,e1,e2,e3⟩:=kN i x hi;exact⟨b,v,e1,e2,e3.heap fun bi hb=>Lv marks st.heap (Ee bi (List.mem_filterMap.2 ⟨b,List.mem_of_getElem? e1,hb⟩))⟩
    have nu:=qb h1 (by omega) oU jD O5;obtain⟨bs1,bs2,bs3⟩:=nt dV res.out bw (eR st.heap marks) Z0 oU Mg;have rk:∀c o,nq args Rs c o->∃(i:Nat) (x:Arg) (b:bK) (v:Value) (ao:aA) (bi:Nat) (B:aA) (RB:bZ),args[i]?=some x/\dV[i]?=some b/\jC β (eR st.heap marks) S1 w x b (Rs i) v/\x.ao=some ao/\b.id=some bi/\look (eR st.heap marks) bi=some B/\β bi=some RB/\ao.ext (Rs i) c o/\B.ext RB c o/\B.wr RB c o:=by
     rintro c o ⟨i,x,ao,e1,e2,e3⟩
     obtain⟨b,v,f1,f2,f3⟩:=jD i x e1;rcases(f3.uF h1).2 ao e2 with⟨bi,B,RB,g1,g2,g3,g4,g5⟩|⟨_,g⟩
     ·refine⟨i,x,b,v,ao,bi,B,RB,e1,f1,f3,e2,g1,g2,g3,e3,g4 c o e3,g5 c o ?_⟩
      obtain⟨q1,q2⟩:=e3;cases x with
      | val=>cases e2
      | fu sz rows=>cases e2;exact⟨q1,by simpa using q2⟩
      | own sz rows=>cases e2;exact⟨q1,by simpa using q2⟩
      | ref cells=>cases e2;exact⟨q1,q2⟩
      | dA=>cases e2
      | gh cells=>cases e2;exact⟨q1,q2⟩
     ·exact absurd e3 (g c o)
    refine(hc.2 S1 w aW Rs nu).mono ?_
    rintro en w' ⟨v,rfl,⟨S',Rr,vs,p1,p2,p3,p4,p5,p6,p7,p8,p9⟩⟩
    have hwS:∀c o,S1 c o->w'.cell? ⟨c,o,none⟩=w.cell? ⟨c,o,none⟩:=fun c o ji=>(p3.cell (h1.sT c o ji) fun hx=>by
     obtain⟨i,x,b,v,ao,bi,B,RB,_,_,_,_,_,g2,g3,_,_,g6⟩:=rk c o hx;obtain⟨R',k1,_,_,k4⟩:=h1.ao bi B g2;rw[g3]at k1;cases k1;exact k4 c o g6 ji).1
    have rn:∀b ao,look (eR (eR st.heap marks) bw) b=some ao->∃B,look (eR st.heap marks) b=some B/\∀R c o,ao.ext R c o->B.ext R c o:=by
     intro b ao hb
     by_cases hD:b∈dV.filterMap bK.id
     ·obtain⟨bk,g8,uI⟩:=List.mem_filterMap.1 hD
      obtain⟨i,hi⟩:=List.getElem?_of_mem g8;have Z8:=uz hi;obtain⟨b',u,l1,l2,l3⟩:=jD i (args[i]'(by omega)) (List.getElem?_eq_getElem _);rw[hi]at l1;cases l1;obtain⟨ob,Yb,O7⟩:=bs3 i bk hi;generalize args[i]=x at l3;generalize Rs i=Ri at l3;cases l3 with
      | val=>cases uI
      | nil=>cases uI
      | own g1=>cases uI;rw[show look (eR (eR st.heap marks) bw) b=none from O7]at hb;cases hb
      | fu g1 g2 g3 g4=>
       cases uI;obtain⟨lA,r,dy,g',q1,q2,q3,q4⟩:=O7;rw[q4]at hb;cases hb;rw[Lv marks st.heap (Ee b hD),q2]at g1;cases g1;refine⟨_,by rw[Lv marks st.heap (Ee b hD)];exact q2,fun R c o hx=>?_⟩;rw[aA.ext,RY _ _ _ (by omega)]at hx;exact hx
      | ref g1 g2 g3=>
       cases uI;obtain⟨cs,gL,q1,q2,q3,q4⟩:=O7;rw[q4]at hb;cases hb;refine⟨_,by rw[Lv marks st.heap (Ee b hD)];exact q2,fun R c o hx=>?_⟩;rw[aA.ext,q3]at hx;exact hx
      | dA=>cases uI
      | gh g1 g2 g3=>
       cases uI;obtain⟨cs,gL,q1,q2,q3,q4⟩:=O7;rw[q4]at hb;cases hb;refine⟨_,by rw[Lv marks st.heap (Ee b hD)];exact q2,fun R c o hx=>?_⟩;rw[aA.ext,q3]at hx;exact hx
     ·rw[bs2 b hD]at hb
      exact⟨ao,hb,fun _ _ _ hx=>hx⟩
    have QV:∀b ao,b∈dV.filterMap bK.id->look (eR (eR st.heap marks) bw) b=some ao->∃RB,β b=some RB/\eH β S' w' K.B0 RB ao/\(∀c o,ao.wr RB c o->¬S' c o) /\
      (∀c o,ao.ext RB c o->nq args Rs c o->∀(k sz:Nat) (rows:List (List Tree)),res.aW[k]?=some (.own sz rows)->¬(aA.rows sz rows true false).ext (Rr k) c o):=by
     intro b ao hD hb;obtain⟨bk,g8,uI⟩:=List.mem_filterMap.1 hD;obtain⟨i,hi⟩:=List.getElem?_of_mem g8;have Z8:=uz hi;obtain⟨x,VB⟩:∃x,args[i]?=some x:=⟨_,List.getElem?_eq_getElem (by omega)⟩;obtain⟨b',u,l1,l2,l3⟩:=jD i x VB;rw[hi]at l1;cases l1;obtain⟨ob,Yb,O7⟩:=bs3 i bk hi;obtain⟨B,fQ,dW⟩:=rn b ao hb;obtain⟨RB,k1,k2,k3,k4⟩:=h1.ao b B fQ;have QW:∀c o,B.ext RB c o->nq args Rs c o->∃bl,x.ao=some bl/\bl.ext (Rs i) c o:=by
      intro c o hx hn;obtain⟨j,x',bj,u',bl,bi,B',Sk,n1,n2,n3,n4,n5,n6,n7,n8,n9,_⟩:=rk c o hn;have Cz:bi=b:=by
       rcases Decidable.em (bi=b) with h|h
       ·exact h
       ·exact absurd hx (h1.mK bi b B' B Sk RB h n6 fQ n7 k1 c o n9)
      subst Cz;have Ed:=Au dV j i bj bk oU n2 hi n5 uI;subst Ed;rw[VB]at n1;cases n1;exact⟨bl,n4,n8⟩
     have hS':∀c o,S' c o->B.ext RB c o->S1 c o∨nq args Rs c o:=by
      intro c o sW hx;rcases p5 c o sW with h|⟨_,h|h⟩
      ·exact .inl h
      ·have:=(k3 c o hx).1;omega
      ·exact .inr h
     generalize Z9:Rs i=Ri at l3;cases l3 with
     | val=>cases uI
     | nil=>cases uI
     | own g1=>cases uI;rw[show look (eR (eR st.heap marks) bw) b=none from O7]at hb;cases hb
     | fu g1 g2 g3 g4=>
      rename_i sz off len rows g R0;cases uI;rw[k1]at g2;cases g2;obtain⟨lA,r,dy,g',q1,q2,q3,q4⟩:=O7;subst q1;rw[q4]at hb;cases hb;rw[g1]at fQ;cases fQ;rw[Lv marks st.heap (Ee b hD),q2]at g1;cases g1;obtain⟨arg,b0,a0,a0',a1,a2,a3,a4⟩:=p9 i _ Yb;rw[VB]at a0;cases a0;cases a0';rw[Z9]at a1 a2 a3 a4 QW;obtain⟨z0,z1,z2,z3,z4,z5,z6,z7⟩:=k2;obtain⟨y0,y1,y2,y3,y4,y5,y6,y7⟩:=a2
      have GK:((rows.drop off).take len).length=len:=by rw[List.length_take,List.length_drop];omega
      have RX:=RY rows r off (by omega);have Lw:∀(s o:Nat),RB.co+off*RB.ah<=o->o<RB.co+off*RB.ah+len*RB.ah->(aA.rows s r false false).ext ⟨RB.cb,RB.co+off*RB.ah,RB.ah,RB.cap-off⟩ RB.cb o:=fun s o h1 h2=>⟨rfl,h1,by simp only[Bool.false_eq_true,if_false];rw[q3];exact h2⟩
      have Hh:∀(s c o:Nat),(aA.rows s rows g false).ext RB c o->nq args Rs c o->c=RB.cb/\RB.co+off*RB.ah<=o/\o<RB.co+off*RB.ah+len*RB.ah:=by
       intro s c o hx hn;obtain⟨bl,m1,m2⟩:=QW c o hx hn;cases m1;obtain⟨m3,m4,m5⟩:=m2;simp only[Bool.false_eq_true,if_false,GK]at m4 m5;exact⟨m3,m4,m5⟩
      refine⟨RB,k1,⟨z0,fun row dk=>?_,by rw[RX];exact z2,z3,by rw[RX];exact z4,by rw[RX];exact p3.there z5,fun p j t ht=>?_,by simp⟩,fun c o hy sW=>?_,fun c o hy hn k Mh nw hk=>?_⟩
      ·obtain⟨k,hk⟩:=List.getElem?_of_mem dk
       rw[OV _ _ _ _ (by omega)]at hk;split at hk
       ·exact y1 row (List.mem_of_getElem? hk)
       ·exact z1 row (List.mem_of_getElem? hk)
      ·obtain⟨row,f1,f2,f3,f4⟩:=jd ht
       rw[OV _ _ _ _ (by omega)]at f1;split at f1
       ·rename_i jc
        obtain⟨v,m1,m2⟩:=y6 _ _ _ (Gy f1 f2);refine⟨v,?_,m2⟩;simp only at m1;have hpp:p*RB.ah=off*RB.ah+(p-off)*RB.ah:=by rw[<-Nat.add_mul];congr 1;omega
        rw[show RB.co+p*RB.ah+j=RB.co+off*RB.ah+(p-off)*RB.ah+j by omega];exact m1
       ·rename_i jc
        have mX:=Gy f1 f2;obtain⟨v,m1,m2⟩:=z6 _ _ _ mX;obtain⟨m3,m4,m5⟩:=im z1 mX;have JK:rows.length*RB.ah<=(if g=true then RB.cap else rows.length)*RB.ah:=Nat.mul_le_mul_right _ (by split<;>omega);have hex:(aA.rows 0 rows g false).ext RB RB.cb (RB.co+p*RB.ah+j):=⟨rfl,by omega,by omega⟩;refine⟨v,?_,m2.mono p4 hwS⟩;rw[(p3.cell (k3 _ _ hex).1 fun hn=>?_).1]
        ·exact m1
        ·obtain⟨_,n1,n2⟩:=Hh _ _ _ hex hn
         rcases Nat.lt_or_ge p off with Ev|Ev
         ·have:=Nat.mul_le_mul_right RB.ah (show p+1<=off by omega)
          rw[Nat.succ_mul]at this;omega
         ·have:=Nat.mul_le_mul_right RB.ah (show off+len<=p by omega)
          rw[Nat.add_mul]at this;omega
      ·have VC:(aA.rows _ rows g false).ext RB c o:=dW RB c o (aA.fL hy)
       rcases hS' c o sW VC with h|h
       ·refine k4 c o ?_ h
        obtain⟨n1,n2,n3⟩:=VC;exact⟨n1,by simpa using n2,n3⟩
       ·obtain⟨rfl,n1,n2⟩:=Hh _ c o VC h
        obtain⟨n3,n4,n5⟩:=Lw 0 o n1 n2;exact a3 _ _ ⟨n3,by simpa using n4,n5⟩ sW
      ·have VC:(aA.rows _ rows g false).ext RB c o:=dW RB c o hy
       obtain⟨rfl,n1,n2⟩:=Hh _ c o VC hn;exact a4 k Mh nw hk _ _ (Lw _ o n1 n2)
     | ref g1 g2 g3=>
      rename_i ts;cases uI;rw[k1]at g2;cases g2;obtain⟨cs,gL,q1,q2,q3,q4⟩:=O7;subst q1;rw[q4]at hb;cases hb;rw[g1]at fQ;cases fQ;rw[Lv marks st.heap (Ee b hD),q2]at g1;cases g1;obtain⟨arg,b0,a0,a0',a1,a2,a3,a4⟩:=p9 i _ Yb;rw[Z9]at a1 a2 a3 a4;refine⟨RB,k1,a2.vA,a3,fun c o hy hn k Mh nw hk=>a4 k Mh nw hk c o hy⟩
     | dA=>cases uI
     | gh g1 g2 g3=>
      rename_i ts;cases uI;rw[k1]at g2;cases g2;obtain⟨cs,gL,q1,q2,q3,q4⟩:=O7;subst q1;rw[q4]at hb;cases hb;rw[g1]at fQ;cases fQ;rw[Lv marks st.heap (Ee b hD),q2]at g1;cases g1;obtain⟨arg,b0,a0,a0',a1,a2,a3,a4⟩:=p9 i _ Yb;rw[Z9]at a1 a2 a3 a4;refine⟨RB,k1,a2.vA,a3,fun c o hy hn k Mh nw hk=>a4 k Mh nw hk c o hy⟩
    have h2:Sat K β S' ⟨st.tmps,eR (eR st.heap marks) bw⟩ a w':=by
     refine h1.step (fun b=>b∈dV.filterMap bK.id) p3 (fun c o hx bJ=>?_) (fun _ _ hx=>hx) (fun b R hb=>by rw[L0];exact h1.top b R hb) p4 (fun c o sW=>?_) (fun b ao hD hb=>by rw[bs2 b hD]at hb;exact hb) (fun b ao hD hb=>?_)
     ·obtain⟨i,x,b,v,ao,bi,B,RB,_,g0,_,_,g1,g2,g3,_,g5,g6⟩:=rk c o hx
      obtain⟨R',k1,_,k3,k4⟩:=h1.ao bi B g2;rw[g3]at k1;cases k1;refine⟨k4 c o g6,(k3 c o g5).2,fun b' dj R' hD bQ ia hy=>?_⟩;have dh:bi≠b':=by rintro rfl;exact hD (List.mem_filterMap.2 ⟨b,List.mem_of_getElem? g0,g1⟩)
      exact h1.mK bi b' B dj RB R' dh g2 bQ g3 ia c o g5 hy
     ·rcases p5 c o sW with ji|⟨bJ,hn⟩
      ·exact .inl ji
      ·refine .inr ⟨bJ,?_,fun b' dj R' hD bQ ia hy=>?_⟩
       ·rcases hn with hn|hn
        ·exact .inl (by have:=h.jM.size;unfold Ctx.B0;omega)
        ·obtain⟨i,x,b,v,ao,bi,B,RB,_,_,_,_,_,g2,g3,_,g5,_⟩:=rk c o hn
         obtain⟨R',k1,_,k3,_⟩:=h1.ao bi B g2;rw[g3]at k1;cases k1;exact(k3 c o g5).2
       ·rcases hn with hn|hn
        ·obtain⟨wi,k1,_,k3,_⟩:=h1.ao b' dj bQ
         rw[ia]at k1;cases k1;have:=(k3 c o (aA.fL hy)).1;omega
        ·obtain⟨i,x,b,v,ao,bi,B,RB,_,g0,_,_,g1,g2,g3,_,g5,_⟩:=rk c o hn
         have dh:bi≠b':=by rintro rfl;exact hD (List.mem_filterMap.2 ⟨b,List.mem_of_getElem? g0,g1⟩)
         exact h1.mK bi b' B dj RB R' dh g2 bQ g3 ia c o g5 (aA.fL hy)
     ·obtain⟨B,fQ,dW⟩:=rn b ao hb
      obtain⟨RB,k1,k2,k3,k4⟩:=h1.ao b B fQ;obtain⟨Sk,t1,t2,t3,_⟩:=QV b ao hD hb;rw[k1]at t1;cases t1;refine⟨RB,k1,t2,fun c o hx=>⟨Nat.lt_of_lt_of_le (k3 c o (dW _ c o hx)).1 p3.size,(k3 c o (dW _ c o hx)).2⟩,t3,fun Ex iU wi dh jn mQ c o hx hy=>?_⟩;obtain⟨B'',m1,m2⟩:=rn Ex iU jn;exact h1.mK b Ex B B'' RB wi (Ne.symm dh) fQ m1 k1 mQ c o (dW _ c o hx) (m2 _ c o hy)
    have hWn:∀c o,w.heap.size<=c∨nq args Rs c o->K.B0<=c∨K.W c o:=by
     rintro c o (hn|hn)
     ·exact .inl (by have:=h.jM.size;unfold Ctx.B0;omega)
     ·obtain⟨i,x,b,v,ao,bi,B,RB,_,_,_,_,_,g2,g3,_,g5,_⟩:=rk c o hn
      obtain⟨R',k1,_,k3,_⟩:=h1.ao bi B g2;rw[g3]at k1;cases k1;exact(k3 c o g5).2
    obtain⟨β',e1,e2,e3,e4,e5⟩:=wA (st:=st) res.aW vs 0 Rr slot β _ h2 (by omega) (fun k r hk=>by
      obtain⟨u,q1,q2⟩:=p6 k r hk;exact⟨u,q1,by rw[Nat.zero_add];exact q2⟩) (by rw[L0,L0];omega) (fun b h1 h2=>hf b h1 (by omega))
     (fun k sz rows hk=>by
      rw[Nat.zero_add];obtain⟨q1,q2⟩:=p7 k sz rows hk;exact⟨fun c o hx=>⟨(q1 c o hx).1,hWn c o (q1 c o hx).2⟩,q2⟩)
     (fun k j sz lA rows dy dh hk hj=>by rw[Nat.zero_add,Nat.zero_add];exact p8 k j sz lA rows dy dh hk hj)
     (fun k sz rows hk b dj R' hb hR c o hx hy=>by
      rw[Nat.zero_add]at hy;obtain⟨B,fQ,dW⟩:=rn b dj hb;obtain⟨RB,k1,k2,k3,k4⟩:=h1.ao b B fQ;rw[hR]at k1;cases k1;rcases((p7 k sz rows hk).1 c o hy).2 with hn|hn
      ·have:=(k3 c o (dW _ c o hx)).1;omega
      ·by_cases hD:b∈dV.filterMap bK.id
       ·obtain⟨Sk,t1,_,_,t4⟩:=QV b dj hD hb
        rw[hR]at t1;cases t1;exact t4 c o hx hn k sz rows hk hy
       ·obtain⟨i,x,bj,v,bl,bi,B',Sk,_,g0,_,_,g1,g2,g3,_,g5,_⟩:=rk c o hn
        have dh:bi≠b:=by rintro rfl;exact hD (List.mem_filterMap.2 ⟨bj,List.mem_of_getElem? g0,g1⟩)
        exact h1.mK bi b B' B Sk R' dh g2 fQ g3 hR c o g5 (dW _ c o hx))
    refine⟨v,β',S',rfl,fun b hb=>e1 b (by omega),by rw[GJ,GJ];exact e3,?_⟩;rw[p2];exact wz (by omega) e5
   ·cases he
end
theorem rp:∀ {cs:List Cell} {ts:List Tree},oo cs=some ts->ts.length=cs.length/\∀(j:Nat) (t:Tree),ts[j]?=some t->cs[j]?=some (.t t)
 | [],ts,h=>by simp[oo]at h;subst h;simp
 | c::cs,ts,h=>by
  cases c with
  | t x=>
   simp only[oo,Option.map_eq_some_iff]at h;obtain⟨OX,h1,rfl⟩:=h;obtain⟨h2,h3⟩:=rp h1;refine⟨by simp[h2],fun j t hj=>?_⟩;cases j with
   | zero=>simp at hj;subst hj;rfl
   | succ j=>simpa using h3 j t (by simpa using hj)
  | _=>simp[oo]at h
section
variable {P:Program} {C:eA} {K:Ctx} {β:Nat->Option bZ} {S:Place} {st:St} {a:Act} {w:World} {slot:Nat} {e:cR} {o:Oper}
theorem Sat.Az (h:Sat K β S st a w) {b:Nat} {cells:List Cell} (hb:look st.heap b=some (.var cells)) :
  ∃S',(∀c o,S c o->S' c o)/\Sat K β S' ⟨st.tmps,st.heap.set b none⟩ a w/\∀R,β b=some R->∀o,R.co<=o->o<R.co+cells.length->S' R.cb o:=by
 obtain⟨R,hR,je,hx,GH⟩:=h.ao b _ hb;have bJ:=tj hb
 let S':Place:=fun c o=>S c o∨(c=R.cb/\R.co<=o/\o<R.co+cells.length)
 have Am:∀c o,S c o->S' c o:=fun _ _ hx=>.inl hx
 have jc:∀c o,S' c o->S c o∨(aA.var cells).ext R c o:=by
  rintro c o (hs|⟨e1,e2,e3⟩)
  ·exact .inl hs
  ·exact .inr ⟨e1,e2,by omega⟩
 refine⟨S',Am,?_,fun R' ia o e1 e2=>by rw[hR]at ia;cases ia;exact .inr ⟨rfl,e1,e2⟩⟩;refine h.step (Wr:=fun _ _=>False) (fun b'=>b'=b) (fp.refl _ _) (fun _ _ hx=>hx.elim) (fun _ _ hx=>hx) (fun b' R' bQ=>by simpa using h.top b' R' bQ) Am (fun c o hs=>?_) (fun b' dj hD bQ=>?_) (fun b' dj hD bQ=>?_)
 ·rcases jc c o hs with hs|hs
  ·exact .inl hs
  ·refine .inr ⟨(hx c o hs).1,(hx c o hs).2,fun b' dj R' hD bQ ia hy=>?_⟩
   exact h.mK b b' _ dj R R' (Ne.symm hD) hb bQ hR ia c o hs (aA.fL hy)
 ·rw[tu hD]at bQ;exact bQ
 ·subst hD
  rw[An (by simpa using bJ)]at bQ;cases bQ
theorem O8 (hC:bC P C) (h:Sat K β S st a w) {t:TypeId} {x:Operand} {lo hi mx:Option Operand} (ho:o.op=.slice t x lo hi mx)
  (he:dq C (look st.heap) t (st.get x) (lo.map st.get) (hi.map st.get) (mx.map st.get)=some e):oS P K β S st a w slot o e:=by
 by_cases Oh:∀ti n el,C.ty t=some ti->ti.kind ≠ .array n el
 ·exact(OL hC h ho Oh he).lI h
 have hex:∃ti n el,C.ty t=some ti/\ti.kind=.array n el:=by
  apply Classical.byContradiction;intro hc;exact Oh fun ti n el h1 h2=>hc ⟨ti,n,el,h1,h2⟩
 obtain⟨ti,n,el,cZ,hk⟩:=hex;have dQ:=jh (hC t ti cZ);have hx:=h.get x;unfold dq at he;simp only[cZ]at he;split at he
 ·rename_i l lH m hl hh hm
  have bl:=fI.low h hl;have bh:=fI.of h hh;have bm:=fI.of h hm;split at he
  ·rename_i yr _;rw[hk]at yr;cases yr
  ·rename_i yr _;rw[hk]at yr;cases yr
  ·rename_i yr _;rw[hk]at yr;cases yr
  ·rename_i n' el' b r c yr hg
   rw[hk]at yr;cases yr;rw[hg]at hx;cases hx with|c hx=>
   generalize eL:a.eval x=av at hx;cases hx with|ptr R hR=>
   split at he
   ·rename_i cells te hb dx
    split at he
    ·rename_i hc
     obtain⟨rfl,rfl,rfl,e0,e1,rfl,dY,hlen,hn⟩:=hc;split at he
     ·rename_i ts uC
      cases he;obtain⟨t1,t2⟩:=rp uC;have eI:=jh (hC _ te dx);obtain⟨R',ia,je,_⟩:=h.ao b _ hb;rw[hR]at ia;cases ia;obtain⟨S',Am,kK,R4⟩:=h.Az hb;have G5:mx.map a.eval=none:=by
       cases JJ:mx.map a.eval with
       | none=>rfl
       | some v=>rw[JJ]at bm;exact bm.elim
      have di:=gl (P:=P) (w:=w) (isSlice:=false) (len:=n) (cap:=n) (mx:=none) (m:=none) bl bh trivial (by simp) (by omega) e0 (by simpa using e1) (by simp);obtain⟨k,GG⟩:∃k,k=(lH.getD (n:Int)).toNat:=⟨_,rfl⟩;have Us:k<=n:=by omega
      let rows:List (List Tree):=(ts.take k).map fun t=>[t]
      have yv:rows.length=k:=by simp only[rows,List.length_map,List.length_take,t1,hlen];omega
      have Uq:∀i j t,fo rows i j=some t->j=0/\i<k/\ts[i]?=some t:=by
       intro i j t ht;obtain⟨row,h1,h2,_,_⟩:=jd ht;simp only[rows,List.getElem?_map,Option.map_eq_some_iff]at h1;obtain⟨u,h3,rfl⟩:=h1;rw[List.getElem?_take]at h3;split at h3
       ·rename_i O9
        cases j with
        | zero=>simp at h2;subst h2;exact⟨rfl,O9,h3⟩
        | succ j=>simp at h2
       ·cases h3
      have aab:∃val:Nat->Nat->Value,∀i j t,fo rows i j=some t->w.cell? ⟨R.cb,R.co+i*1+j,none⟩=some (val i j)/\dX S' w t (val i j):=by
       have:∀i j,∃v,∀t,fo rows i j=some t->w.cell? ⟨R.cb,R.co+i*1+j,none⟩=some v/\dX S' w t v:=by
        intro i j;cases ht:fo rows i j with
        | none=>exact⟨undef,by simp⟩
        | some t=>
         obtain⟨rfl,O9,h3⟩:=Uq i j t ht;obtain⟨v,a1,a2⟩:=je.2 i _ (t2 i t h3);cases a2 with|t a2=>
         exact⟨v,fun t' mX=>by cases mX;exact⟨by simpa using a1,a2.mono Am fun _ _ _=>rfl⟩⟩
       exact⟨fun i j=>(this i j).choose,fun i j t ht=>(this i j).choose_spec t ht⟩
      obtain⟨val,pU⟩:=aab;have hT:dX S' w (.aa false rows) (.slice (some ⟨R.cb,R.co,none⟩) rows.length n):=
       .aa false rows _ R.cb R.co 1 n val (by omega) (by omega) (by omega) (fun hf=>by cases hf) (fun _=>rfl) (fun hf=>by cases hf) (fun r hr=>by
        obtain⟨u,_,rfl⟩:=List.mem_map.1 hr;rfl) (fun i j t ht=>by
        obtain⟨rfl,O9,_⟩:=Uq i j t ht;exact⟨R4 R hR _ (by omega) (by omega),(pU i 0 t ht).1⟩) (fun i j t ht=>(pU i j t ht).2)
      refine⟨w,β,S',.slice (some ⟨R.cb,R.co,none⟩) rows.length n,_,?_,.inl rfl,fun _ _=>rfl,by simpa[eR]using kK,?_⟩
      ·simp only[execOp,ho,Instr.sliceAt,Instr.sureAddr,run_underlying (dQ.array hk),Sem.run_bind,Sem.run_pure,Result.andThen,eL,G5,di,eI.sizeOf,Option.getD_none]
       have hz:Int.toNat 0=0:=rfl;have e2:(⟨R.cb,R.co+0*R.ah+0,none⟩:Addr)=⟨R.cb,R.co,none⟩:=by simp
       have e3:(⟨R.cb,R.co,none⟩:Addr).add (0*te.size)=⟨R.cb,R.co,none⟩:=by rw[Nat.zero_mul];simp[Addr.add]
       rw[hz,e2,e3,yv,GG,Int.toNat_natCast,Nat.sub_zero,Nat.sub_zero];split<;>rfl
      ·rw[<-GG]
       exact .c (.t hT)
     ·cases he
    ·cases he
   ·cases he
  ·cases he
 ·cases he
end
section
variable {P:Program} {C:eA} {K:Ctx} {β:Nat->Option bZ} {S:Place} {st:St} {a:Act} {w:World} {slot:Nat} {e:cR} {o:Oper}
theorem uJ {h:Hp}:∀ {cs:List Cell} {ts:List Tree} {m:List (Nat×Option aA)},bS h cs=some (ts,m)->∀p∈m,(h p.1).isSome=true
 | [],ts,m,ht=>by simp[bS]at ht;obtain⟨_,rfl⟩:=ht;simp
 | c::cs,ts,m,ht=>by
  unfold bS at ht;split at ht
  ·rename_i t m1 h1
   split at ht
   ·rename_i OX m2 h2
    cases ht;intro p hp;rcases List.mem_append.1 hp with hp|hp
    ·unfold toTree at h1
     split at h1
     ·cases h1;cases hp
     ·split at h1
      ·rename_i hb
       split at h1
       ·cases h1;simp at hp;subst hp;rw[hb];rfl
       ·cases h1
      ·cases h1
     ·cases h1
    ·exact uJ h2 p hp
   ·cases ht
  ·cases ht
theorem EK:∀(ws:List (Nat×Option aA)) (h:bU),(∀p∈ws,p.1<h.length)->look (eR h ws)=Em (look h) ws
 | [],h,_=>rfl
 | p::l,h,hp=>by
  rw[iV,EK l _ (fun q hq=>by rw[List.length_set];exact hp q (List.mem_cons_of_mem _ hq)),Em];congr 1;funext b;split
  ·rename_i hb;rw[Nat.eq_of_beq_eq_true hb,An (hp p List.mem_cons_self)]
  ·rename_i hb;rw[tu (fun hh=>by rw[hh,Nat.beq_refl]at hb;cases hb)]
theorem Sat.Mi {tm:List AV} {heap:bU} (h:Sat K β S ⟨tm,heap⟩ a w) {b:Nat} {cells:List Cell} {ts:List Tree} {m:List (Nat×Option aA)}
  (hb:look heap b=some (.var cells)) (ht:bS (look heap) cells=some (ts,m)) :
  ∃S',(∀c o,S c o->S' c o)/\Sat K β S' ⟨tm,eR heap (m ++ [(b,some (.var (ts.map .t)))])⟩ a w:=by
 obtain⟨R,hR,je,_,_⟩:=h.ao b _ hb;obtain⟨⟨vy,dR⟩,GK⟩:=je;obtain⟨vs,Lp⟩:∃vs:List Value,vs=(List.range cells.length).map fun j=>(w.cell? ⟨R.cb,R.co+j,none⟩).getD undef:=⟨_,rfl⟩
 obtain⟨S',hS,kK,hm,hl,uC⟩:=gF (st:=⟨tm,heap⟩) cells vs heap S ts m h (eJ.refl _) (by rw[Lp];simp) (fun i c hi=>by
  obtain⟨v,e1,e2⟩:=GK i c hi;have bJ:=(List.getElem?_eq_some_iff.1 hi).1;exact⟨v,by rw[Lp,List.getElem?_map,List.getElem?_range bJ,Option.map_some,e1];rfl,e2⟩) ht
 have nk:look (eR heap m) b=some (.var cells):=by
  rcases hm.2 b with e|⟨_,_,_,_,e,_⟩
  ·exact e.trans hb
  ·exact absurd (hb.symm.trans e) (by simp)
 refine⟨S',hS,?_⟩;rw[GJ];obtain⟨R',ia,aeX,VD,L1⟩:=kK.ao b _ nk;rw[hR]at ia;cases ia;have Mf:=tj nk;show Sat K β S' ⟨tm,(eR heap m).set b (some (.var (ts.map .t)))⟩ a w
 refine kK.step (D:=fun x=>x=b) (Wr:=fun _ _=>False) (fp.refl _ w) (fun _ _ hx=>hx.elim) (fun _ _ hx=>hx) (fun b' R bQ=>by rw[List.length_set];exact kK.top b' R bQ) (fun _ _ hx=>hx) (fun _ _ hx=>.inl hx) (fun b' ao dh bQ=>?_) (fun b' ao hD bQ=>?_)
 ·rwa[tu dh]at bQ
 ·subst hD
  rw[An Mf]at bQ;cases bQ;refine⟨R,hR,⟨⟨by simpa[hl]using vy,dR⟩,fun j c hj=>?_⟩,fun c o hx=>VD c o (by unfold aA.ext at *;simpa[hl]using hx),fun c o hx=>L1 c o (by unfold aA.wr at *;simpa[hl]using hx),fun Ex iU wi dh jn mQ c o hx=>?_⟩
  ·rw[List.getElem?_map]at hj
   obtain⟨t,Ok,rfl⟩:=Option.map_eq_some_iff.1 hj
   replace hj:=Ok
   have bJ:=(List.getElem?_eq_some_iff.1 hj).1;obtain⟨v,e1,e2⟩:=uC j t hj;rw[hl]at bJ;rw[Lp,List.getElem?_map,List.getElem?_range bJ,Option.map_some]at e1;have VE:=(vy (R.co+j) (by omega) (by omega)).1;obtain⟨u,hu⟩:=Option.isSome_iff_exists.1 VE;rw[hu]at e1;cases e1;exact⟨u,hu,.t e2⟩
  ·rw[tu dh]at jn
   exact kK.mK b' Ex _ _ R wi (Ne.symm dh) nk jn hR mQ c o (by unfold aA.ext at *;simpa[hl]using hx)
theorem Sat.fD {tm:List AV}:∀(l:List (Nat×Nat×Nat)) {heap:bU} {S:Place} {ws:List (Nat×Option aA)},Sat K β S ⟨tm,heap⟩ a w->Abs.fD (look heap) l=some ws ->
  ∃S',(∀c o,S c o->S' c o)/\Sat K β S' ⟨tm,eR heap ws⟩ a w
 | [],heap,S,ws,h,hw=>by
  simp[Abs.fD]at hw;subst hw;exact⟨S,fun _ _ hx=>hx,h⟩
 | (b,r,c)::l,heap,S,ws,h,hw=>by
  unfold Abs.fD at hw;split at hw
  ·rename_i cells hb
   split at hw
   ·split at hw
    ·rename_i ts m ht
     split at hw
     ·rename_i ws2 Yd
      cases hw;obtain⟨S1,QO,h1⟩:=h.Mi hb ht;rw[<-EK _ _ (fun p hp=>by
       rcases List.mem_append.1 hp with hp|hp
       ·obtain⟨ao,pZ⟩:=Option.isSome_iff_exists.1 (uJ ht p hp)
        exact tj pZ
       ·simp at hp;subst hp;exact tj hb)]at Yd
      obtain⟨S2,QP,h2⟩:=Sat.fD l h1 Yd;refine⟨S2,fun c o hx=>QP _ _ (QO _ _ hx),?_⟩;rw[<-GJ,List.append_assoc]at h2;exact h2
     ·cases hw
    ·cases hw
   ·exact Sat.fD l h hw
  ·exact Sat.fD l h hw
theorem Hi (h:Sat K β S st a w) {f:FuncId} {first aN:Array Operand} (ho:o.op=.makeFunc (.func f) first aN)
  (he:evalOp C slot st.get (look st.heap) (.makeFunc (.func f) first aN)=some e):oS P K β S st a w slot o e:=by
 obtain⟨g,l,v,e1,e2,e3,e4⟩:=G8 (P:=P) h ho he;rcases e2 with e2|e2
 ·obtain⟨S',hS,h'⟩:=Sat.fD (tm:=st.tmps) l h e2
  exact⟨w,β,S',v,_,e3,.inl rfl,fun _ _=>rfl,h',by rw[e1];exact e4.mono (fun _ _ hx=>hx) hS fun _ _ _=>rfl⟩
 ·exact⟨w,β,S,v,_,e3,.inl rfl,fun _ _=>rfl,by rw[e2];exact h,by rw[e1];exact e4⟩
end
def slotsOf (C:eA):Op->Nat
 | .call { callee:=.value (.func f),.. }=>match C.md f with
  | .sh n::_=>n
  | _=>2
 | .call { callee:=.value _,.. }=>2
 | .call { callee:=.builtin .append,.. }=>1
 | .alloc _|.box _ _|.buildSlice _ _ _|.makeSlice _ _ _|.makeMap _ _=>1
 | _=>0
section
variable {P:Program} {C:eA} {K:Ctx} {β:Nat->Option bZ} {S:Place} {st:St} {a:Act} {w:World} {slot:Nat} {e:cR} {o:Oper}
theorem IK (hC:bC P C) (h:Sat K β S st a w) (CK:slotsOf C o.op≠0->slot<st.heap.length/\β slot=none) (he:evalOp C slot st.get (look st.heap) o.op=some e):oS P K β S st a w slot o e:=by
 cases eQ:o.op with
 | move x=>
  rw[eQ]at he;simp only[evalOp]at he;cases he;exact(LS h (.inl eQ) rfl rfl).lI h
 | assign x=>
  rw[eQ]at he;simp only[evalOp]at he;cases he;exact(LS h (.inr eQ) rfl rfl).lI h
 | nilCheck x=>rw[eQ]at he;exact(G2 h eQ he).lI h
 | pick c x y=>rw[eQ]at he;exact(RO h eQ he).lI h
 | alloc t=>rw[eQ]at he CK;exact OY hC h (CK (by simp[slotsOf])).1 (CK (by simp[slotsOf])).2 eQ he
 | box t x=>rw[eQ]at he CK;exact Vk hC h (CK (by simp[slotsOf])).1 (CK (by simp[slotsOf])).2 eQ he
 | build t ps=>rw[eQ]at he;exact(OW hC h eQ he).lI h
 | buildSlice t n ps=>rw[eQ]at he CK;exact CG hC h (CK (by simp[slotsOf])).1 (CK (by simp[slotsOf])).2 eQ he
 | load t x=>rw[eQ]at he;exact(RL hC h eQ he).lI h
 | store t x y=>rw[eQ]at he;exact O0 hC h eQ he
 | binOp op t x y t'=>rw[eQ]at he;exact(OJ hC h eQ he).lI h
 | unOp op t x=>rw[eQ]at he;exact(RT h eQ he).lI h
 | convert s d x=>rw[eQ]at he;simp only[evalOp]at he;exact(JN hC h eQ he).lI h
 | makeSlice t l c=>rw[eQ]at he CK;exact EA hC h (CK (by simp[slotsOf])).1 (CK (by simp[slotsOf])).2 eQ he
 | slice t x lo hi mx=>rw[eQ]at he;simp only[evalOp]at he;exact O8 hC h eQ he
 | fieldAddr t x f=>rw[eQ]at he;exact(Er hC h eQ he).lI h
 | field t x f=>rw[eQ]at he;exact(OF hC h eQ he).lI h
 | indexAddr t x i=>rw[eQ]at he;exact(Es hC h eQ he).lI h
 | index t x i=>rw[eQ]at he;exact(OK hC h eQ he).lI h
 | extract x i=>rw[eQ]at he;exact(JI h eQ he).lI h
 | makeFunc fn first aN=>
  rw[eQ]at he;cases fn with
  | func f=>exact Hi h eQ he
  | _=>simp[evalOp]at he
 | makeMap t r=>rw[eQ]at he CK;exact JP hC h (CK (by simp[slotsOf])).1 (CK (by simp[slotsOf])).2 eQ he
 | lookup t x i ok=>rw[eQ]at he;exact(LX hC h eQ he).lI h
 | mapUpdate t x i v=>rw[eQ]at he;exact EG hC h eQ he
 | call c=>
  rw[eQ]at he;obtain⟨callee,args,argTypes⟩:=c;cases callee with
  | builtin b=>
   simp only[evalOp]at he;split at he
   ·rename_i x t h1 h2
    exact(Vb hC h eQ h1 h2 he).lI h
   ·rename_i s x t h1 h2
    split at he
    ·rename_i ti cZ
     have dQ:=jh (hC _ ti cZ);split at he
     ·rename_i el hk
      split at he
      ·rename_i te t1 dx yt
       split at he
       ·rename_i OC CL
        have VF:=jh (hC _ OC CL);split at he
        ·rename_i e' GF
         split at he
         ·cases he
         ·rename_i hz
          exact EC hC h (CK (by simp[eQ,slotsOf])).1 (CK (by simp[eQ,slotsOf])).2 eQ h1 ⟨⟨t,h2,dQ.slice hk⟩,t1,yt,.inl ⟨e',VF.slice GF⟩⟩ dx (by omega) he
        ·rename_i GF
         split at he
         ·cases he
         ·rename_i hz
          exact EC hC h (CK (by simp[eQ,slotsOf])).1 (CK (by simp[eQ,slotsOf])).2 eQ h1 ⟨⟨t,h2,dQ.slice hk⟩,t1,yt,.inr (VF.string GF)⟩ dx (by omega) he
        ·cases he
       ·cases he
      ·cases he
     ·cases he
    ·cases he
   ·rename_i d x t h1 h2
    split at he
    ·rename_i ti cZ
     have dQ:=jh (hC _ ti cZ);split at he
     ·rename_i el hk
      split at he
      ·rename_i te dx
       split at he
       ·cases he
       ·exact Si hC h eQ h1 h2 (dQ.slice hk) dx he
      ·cases he
     ·cases he
    ·cases he
   ·rename_i x y h1
    exact(QM (gt:=true) h eQ h1 he).lI h
   ·rename_i x y h1
    exact(QM (gt:=false) h eQ h1 he).lI h
   ·cases he
  | value f=>simp[evalOp]at he
  | invoke r m=>simp[evalOp]at he
 | _=>rw[eQ]at he;simp[evalOp]at he
end
def Cell.aw (ρ:Nat->Nat):Cell->Cell
 | .t x=>.t x
 | .ptr b r c=>.ptr (ρ b) r c
 | .tp row c=>.tp row c
 | .sl b off len cp=>.sl (ρ b) off len cp
 | .mp b=>.mp (ρ b)
 | .dA f aN=>.dA f (aN.map fun p=>(ρ p.1,p.2))
def AV.aw (ρ:Nat->Nat):AV->AV
 | .c x=>.c (x.aw ρ)
 | .agg l=>.agg (l.map (Cell.aw ρ))
 | .pN l=>.pN l
 | .af=>.af
def AV.aJ:AV->Prop
 | .pN _=>False
 | _=>True
def aA.aw (ρ:Nat->Nat):aA->aA
 | .var cells=>.var (cells.map (Cell.aw ρ))
 | .rows sz l g fz=>.rows sz l g fz
 | .map de=>.map de
 | .gL sz l=>.gL sz l
def Cell.fE (ids:List Nat):Cell->Bool
 | .t _=>true
 | .ptr b _ _=>ids.contains b
 | .tp _ _=>true
 | .sl b _ _ _=>ids.contains b
 | .mp b=>ids.contains b
 | .dA _ aN=>aN.all fun p=>ids.contains p.1
def AV.fE (ids:List Nat):AV->Bool
 | .c x=>x.fE ids
 | .agg l=>l.all (·.fE ids)
 | .pN _=>false
 | .af=>true
def aA.fE (ids:List Nat):aA->Bool
 | .var cells=>cells.all (·.fE ids)
 | .rows _ _ _ fz=>!fz
 | _=>false
def Cell.refs:Cell->List Nat
 | .t _=>[]
 | .ptr b _ _=>[b]
 | .tp _ _=>[]
 | .sl b _ _ _=>[b]
 | .mp b=>[b]
 | .dA _ aN=>aN.map (·.1)
def AV.refs:AV->List Nat
 | .c x=>x.refs
 | .agg l=>l.flatMap Cell.refs
 | _=>[]
def reach (h:Hp):Nat->List Nat->List Nat->List Nat
 | 0,_,acc=>acc
 | _+1,[],acc=>acc
 | n+1,b::l,acc=>match acc.contains b with
  | true=>reach h n l acc
  | false=>match h b with
   | some (.var cells)=>reach h n (l++cells.flatMap Cell.refs) (acc ++ [b])
   | _=>reach h n l (acc ++ [b])
def eX (h:Hp) (ids:List Nat) (bL:List AV):St:=
 ⟨bL.map (AV.aw fun b=>posOf b ids),ids.map fun b=>(h b).map (aA.aw fun b=>posOf b ids)⟩
def tC (h:Hp) (ids:List Nat) (bL:List AV):Bool:=
 decide ids.Nodup&&(ids.all fun b=>match h b with|some ao=>ao.fE ids|none=>false)&&bL.all (·.fE ids)
def qf (h:Hp) (bL:List AV):Option (List Nat×St):=
 let ids:=reach h 200 (bL.flatMap AV.refs) []
 if tC h ids bL then some (ids,eX h ids bL) else none
def ff (P:Program) (f:FuncId) (s s':St):Prop:=
 (∃fn,P.funcs[f]?=some fn/\fn.body.isSome=true/\(fn.name == "runtime.NumGoroutine")=false) /\
 ∀(K:Ctx) (β:Nat->Option bZ) (S:Place) (a:Act) (w:World),(∀i R,K.β0 i=some R->i<s.heap.length)->Sat K β S s a w ->
  Calls P f a.tmps w fun e w'=>∃(us:List Value) (β':Nat->Option bZ) (S':Place),e=.returned (if us.length=1 then us.getD 0 undef else .tuple us.toArray)/\us.length=s'.tmps.length/\Sat K β' S' s' { a with tmps:=us.toArray } w'
def du (ids:List Nat) (slot k:Nat):Nat:=if k<ids.length then ids.getD k 0 else slot+(k-ids.length)
def gR (ids:List Nat) (slot:Nat) (ρ:Nat->Nat):List (Option aA)->Nat->List (Nat×Option aA)
 | [],_=>[]
 | o::os,k=>(du ids slot k,o.map (aA.aw ρ))::gR ids slot ρ os (k+1)
def AV.flat:AV->Bool
 | .pN _=>false
 | _=>true
def wE (ids:List Nat) (slot mP:Nat) (s':St):Option cR:=
 if ids.length<=s'.heap.length/\s'.heap.length<=ids.length+mP/\s'.tmps.all AV.flat=true then
  some { val:=He (s'.tmps.map (AV.aw (du ids slot))),wr:=gR ids slot (du ids slot) s'.heap 0,rd:=ids }
 else none
section
variable {β β':Nat->Option bZ} {S:Place} {w:World} {n:Nat} {ρ:Nat->Nat}
theorem dv.fwd {c:Cell} {v:Value} (h:dv β S w c v) (hb:∀b R,β b=some R->β' (ρ b)=some R):dv β' S w (c.aw ρ) v:=by
 cases h with
 | t h=>exact .t h
 | ptr R h=>exact .ptr R (hb _ _ h)
 | tp cb co val h=>exact .tp cb co val h
 | sl R base cap h h1 h2 h3 h4 h5=>exact .sl R base cap (hb _ _ h) h1 h2 h3 h4 h5
 | mp R h=>exact .mp R (hb _ _ h)
 | dA vs h1 h2=>
  refine .dA vs (by rw[h1,List.length_map]) fun i b r c hi=>?_
  rw[List.getElem?_map]at hi;obtain⟨⟨b',r',c'⟩,lH,e⟩:=Option.map_eq_some_iff.1 hi;cases e;obtain⟨R,e1,e2⟩:=h2 i b' r c lH;exact⟨R,hb _ _ e1,e2⟩
theorem aI.fwd {x:AV} {v:Value} (h:aI β S w x v) (ht:x.aJ) (hb:∀b R,β b=some R->β' (ρ b)=some R):aI β' S w (x.aw ρ) v:=by
 cases h with
 | c h=>exact .c (h.fwd hb)
 | agg vs h1 h2=>
  refine .agg vs (by rw[h1,List.length_map]) fun i c hi=>?_
  rw[List.getElem?_map]at hi;obtain⟨c',lH,rfl⟩:=Option.map_eq_some_iff.1 hi;obtain⟨v,e1,e2⟩:=h2 i c' lH;exact⟨v,e1,e2.fwd hb⟩
 | pN vs val h1 h2 h3=>exact ht.elim
 | af=>exact .af v
theorem aA.jE {ao:aA} {R:bZ}:(ao.aw ρ).ext R=ao.ext R:=by
 cases ao<;>(funext b o;simp[aA.aw,aA.ext])
theorem aA.IL {ao:aA} {R:bZ}:(ao.aw ρ).wr R=ao.wr R:=by
 cases ao<;>(funext b o;simp[aA.aw,aA.wr])
theorem eH.fwd {ao:aA} {R:bZ} {B B':Nat} (h:eH β S w B R ao) (hB:B'<=B) (hb:∀b R,β b=some R->β' (ρ b)=some R):eH β' S w B' R (ao.aw ρ):=by
 cases ao with
 | var cells=>
  refine⟨⟨by rw[List.length_map];exact h.1.1,h.1.2⟩,fun j c hj=>?_⟩;rw[List.getElem?_map]at hj;obtain⟨c',Ok,rfl⟩:=Option.map_eq_some_iff.1 hj;obtain⟨v,e1,e2⟩:=h.2 j c' Ok;exact⟨v,e1,e2.fwd hb⟩
 | rows sz rows g fz=>exact h
 | map de=>exact⟨Nat.le_trans hB h.1,h.2⟩
 | gL sz rows=>exact h
theorem ny {b:Nat}:∀ {l:List Nat},b∈l->posOf b l<l.length/\l.getD (posOf b l) 0=b
 | x::l,h=>by
  unfold posOf;split
  ·rename_i e
   exact⟨by simp,by simpa using (Nat.eq_of_beq_eq_true e).symm⟩
  ·rename_i e
   have dh:b≠x:=fun h'=>by rw[h',Nat.beq_refl]at e;cases e
   obtain⟨h1,h2⟩:=ny ((List.mem_cons.1 h).resolve_left dh);exact⟨by simp;omega,by simpa using h2⟩
theorem dv.view {ids:List Nat} {c:Cell} {v:Value} (h:dv β S w c v) (hc:c.fE ids=true):dv (fun k=>if k<ids.length then β (ids.getD k 0) else none) S w (c.aw fun b=>posOf b ids) v:=by
 have key:∀b R,ids.contains b=true->β b=some R->(if posOf b ids<ids.length then β (ids.getD (posOf b ids) 0) else none)=some R:=fun b R hb hR=>by
  obtain⟨h1,h2⟩:=ny (List.contains_iff_mem.1 hb);rw[if_pos h1,h2];exact hR
 cases h with
 | t h=>exact .t h
 | ptr R h=>exact .ptr R (key _ _ hc h)
 | tp cb co val h=>exact .tp cb co val h
 | sl R base cap h h1 h2 h3 h4 h5=>exact .sl R base cap (key _ _ hc h) h1 h2 h3 h4 h5
 | mp R h=>exact .mp R (key _ _ hc h)
 | dA vs h1 h2=>
  refine .dA vs (by rw[h1,List.length_map]) fun i b r c hi=>?_
  rw[List.getElem?_map]at hi;obtain⟨⟨b',r',c'⟩,lH,e⟩:=Option.map_eq_some_iff.1 hi;cases e;obtain⟨R,e1,e2⟩:=h2 i b' r c lH;exact⟨R,key _ _ (List.all_eq_true.1 hc _ (List.mem_of_getElem? lH)) e1,e2⟩
theorem aI.view {ids:List Nat} {x:AV} {v:Value} (h:aI β S w x v) (hc:x.fE ids=true):aI (fun k=>if k<ids.length then β (ids.getD k 0) else none) S w (x.aw fun b=>posOf b ids) v:=by
 cases h with
 | c h=>exact .c (h.view hc)
 | agg vs h1 h2=>
  refine .agg vs (by rw[h1,List.length_map]) fun i c hi=>?_
  rw[List.getElem?_map]at hi;obtain⟨c',lH,rfl⟩:=Option.map_eq_some_iff.1 hi;obtain⟨v,e1,e2⟩:=h2 i c' lH;exact⟨v,e1,e2.view (List.all_eq_true.1 hc c' (List.mem_of_getElem? lH))⟩
 | pN=>cases hc
 | af=>exact .af v
theorem eH.view {ids:List Nat} {ao:aA} {R:bZ} {B B':Nat} (h:eH β S w B R ao) (hc:ao.fE ids=true):eH (fun k=>if k<ids.length then β (ids.getD k 0) else none) S w B' R (ao.aw fun b=>posOf b ids):=by
 cases ao with
 | var cells=>
  refine⟨⟨by rw[List.length_map];exact h.1.1,h.1.2⟩,fun j c hj=>?_⟩;rw[List.getElem?_map]at hj;obtain⟨c',Ok,rfl⟩:=Option.map_eq_some_iff.1 hj;obtain⟨v,e1,e2⟩:=h.2 j c' Ok;exact⟨v,e1,e2.view (List.all_eq_true.1 hc c' (List.mem_of_getElem? Ok))⟩
 | rows sz rows g fz=>exact h
 | map de=>cases hc
 | gL sz rows=>cases hc
theorem aA.Mj {ids:List Nat} {ao:aA} (h:ao.fE ids=true) {R:bZ} {c o:Nat} (hx:ao.ext R c o):ao.wr R c o:=by
 cases ao with
 | var cells=>exact hx
 | rows sz rows g fz=>
  have:fz=false:=by simpa[aA.fE]using h
  subst this;exact⟨hx.1,by simpa using hx.2.1,hx.2.2⟩
 | map=>cases h
 | gL=>cases h
theorem rq:∀(l:List (Nat×Option aA)) (h:bU) (b:Nat) (x:Option aA),(Abs.ids l).Nodup->(b,x)∈l->b<h.length->look (eR h l) b=x
 | p::l,h,b,x,hn,hm,hb=>by
  simp only[Abs.ids,List.map_cons,List.nodup_cons]at hn;rw[iV];rcases List.mem_cons.1 hm with e|hm
  ·subst e
   rw[Lv l _ hn.1,An hb]
  ·exact rq l _ b x hn.2 hm (by simpa using hb)
end
section
variable {P:Program} {C:eA} {K:Ctx} {β:Nat->Option bZ} {S:Place} {st:St} {a:Act} {w:World} {slot:Nat} {e:cR} {o:Oper} {f:FuncId}
def EL (hv:bU) (βv:Nat->Option bZ):Place:=fun c o=>∃k ao R,look hv k=some ao/\βv k=some R/\ao.ext R c o
theorem ir {h:Hp} {ids:List Nat} {k:Nat} {ao:aA} (hl:look (ids.map fun b=>(h b).map (aA.aw fun b=>posOf b ids)) k=some ao) :
  k<ids.length/\∃b0,h (ids.getD k 0)=some b0/\ao=b0.aw fun b=>posOf b ids:=by
 have bJ:=tj hl;rw[List.length_map]at bJ;unfold look at hl;rw[List.getElem?_map,List.getElem?_eq_getElem bJ]at hl;simp only[Option.map_some,Option.join_some]at hl;obtain⟨b0,h1,h2⟩:=Option.map_eq_some_iff.1 hl;exact⟨bJ,b0,by rw[List.getD_eq_getElem?_getD,List.getElem?_eq_getElem bJ];exact h1,h2.symm⟩
theorem iW {ids:List Nat} {k:Nat} (h:k<ids.length):ids.getD k 0∈ids:=by
 rw[List.getD_eq_getElem?_getD,List.getElem?_eq_getElem h];exact List.getElem_mem h
theorem getD_inj {ids:List Nat} (hn:ids.Nodup) {i j:Nat} (hi:i<ids.length) (hj:j<ids.length) (h:ids.getD i 0=ids.getD j 0):i=j:=by
 rw[List.getD_eq_getElem?_getD,List.getD_eq_getElem?_getD,List.getElem?_eq_getElem hi,List.getElem?_eq_getElem hj]at h;exact(List.getElem_inj hn).1 h
theorem Mk (h:Sat K β S st a w) {ids:List Nat} {bL:List AV} {aW:List Value} (hl:aW.length=bL.length) (hr:∀(i:Nat) (x:AV),bL[i]?=some x->∃v,aW[i]?=some v/\aI β S w x v)
  (hn:ids.Nodup) (hb:∀b∈ids,∃ao,look st.heap b=some ao/\ao.fE ids=true) (ha:∀x∈bL,x.fE ids=true) :
  Sat ⟨w,EL (eX (look st.heap) ids bL).heap (fun k=>if k<ids.length then β (ids.getD k 0) else none),S,fun k=>if k<ids.length then β (ids.getD k 0) else none⟩
   (fun k=>if k<ids.length then β (ids.getD k 0) else none) S (eX (look st.heap) ids bL) { a with tmps:=aW.toArray } w:=by
 refine⟨by simp[eX,hl],h.defers,fun t x ht=>?_,fun k R hk=>?_,fun k ao hk=>?_,fun k k' ao dj R R' dh hk yr hR ia=>?_,h.sT,fun _ _ hs=>.inl hs,fun _ _ hs=>hs,fp.refl _ _,fun _ _ hi=>hi⟩
 ·simp only[eX,List.getElem?_map]at ht
  obtain⟨x0,h1,rfl⟩:=Option.map_eq_some_iff.1 ht;obtain⟨v,h2,h3⟩:=hr t x0 h1;have:({ a with tmps:=aW.toArray }:Act).tmps.getD t undef=v:=by simp[h2]
  rw[this];exact h3.view (ha x0 (List.mem_of_getElem? h1))
 ·split at hk
  ·rename_i bJ;simpa[eX]using bJ
  ·cases hk
 ·obtain⟨bJ,b0,h1,h2⟩:=ir hk
  obtain⟨b1,h3,h4⟩:=hb _ (iW bJ);rw[h3]at h1;cases h1;obtain⟨R,g1,g2,g3,g4⟩:=h.ao _ _ h3;subst h2;have hβ:(if k<ids.length then β (ids.getD k 0) else none)=some R:=by rw[if_pos bJ];exact g1
  refine⟨R,hβ,g2.view h4,fun c o hx=>⟨?_,.inr ⟨k,_,R,hk,hβ,hx⟩⟩,fun c o hx=>?_⟩
  ·rw[aA.jE]at hx;exact(g3 c o hx).1
  ·rw[aA.IL]at hx;exact g4 c o hx
 ·obtain⟨bJ,b0,h1,h2⟩:=ir hk
  obtain⟨tx,b0',QJ,IH⟩:=ir yr;rw[if_pos bJ]at hR;rw[if_pos tx]at ia;have:=h.mK (ids.getD k 0) (ids.getD k' 0) _ _ R R' (fun e=>dh (getD_inj hn bJ tx e)) h1 QJ hR ia;subst h2 IH;rw[aA.jE,aA.jE];exact this
theorem wF {ids:List Nat} {slot:Nat} {ρ:Nat->Nat}:∀(l:List (Option aA)) (k0:Nat),(∀p∈gR ids slot ρ l k0,∃j,j<l.length/\p=(du ids slot (k0+j),((l[j]?).join).map (aA.aw ρ)))/\(∀j,j<l.length->(du ids slot (k0+j),((l[j]?).join).map (aA.aw ρ))∈gR ids slot ρ l k0)
 | [],k0=>⟨by simp[gR],by simp⟩
 | x::l,k0=>by
  obtain⟨h1,h2⟩:=wF (ids:=ids) (slot:=slot) (ρ:=ρ) l (k0+1);refine⟨fun p hp=>?_,fun j hj=>?_⟩
  ·rw[gR]at hp
   rcases List.mem_cons.1 hp with rfl|hp
   ·exact⟨0,by simp,by simp⟩
   ·obtain⟨j,e1,e2⟩:=h1 p hp
    exact⟨j+1,by simpa using e1,by rw[e2,show k0+1+j=k0+(j+1) by omega];simp⟩
  ·rw[gR]
   cases j with
   | zero=>simp
   | succ j=>
    have:=h2 j (by simpa using hj);rw[show k0+1+j=k0+(j+1) by omega]at this;exact List.mem_cons_of_mem _ (by simpa using this)
theorem EM {ids:List Nat} {slot mP:Nat} (hn:ids.Nodup) (hs:∀b∈ids,b<slot∨slot+mP<=b) {i j:Nat} (lH:i<ids.length+mP) (Ok:j<ids.length+mP) (h:du ids slot i=du ids slot j):i=j:=by
 unfold du at h;split at h
 ·rename_i hi
  split at h
  ·rename_i hj;exact getD_inj hn hi hj h
  ·have:=hs _ (iW hi);omega
 ·split at h
  ·rename_i hj
   have:=hs _ (iW hj);omega
  ·omega
theorem qg {ids:List Nat} {slot:Nat} {ρ:Nat->Nat}:∀(l:List (Option aA)) (k0:Nat),Abs.ids (gR ids slot ρ l k0)=(List.range' k0 l.length).map (du ids slot)
 | [],k0=>rfl
 | x::l,k0=>by
  have:=qg (ids:=ids) (slot:=slot) (ρ:=ρ) l (k0+1);simp only[Abs.ids]at this;simp[gR,Abs.ids,this,List.range'_succ]
theorem Ml (h:Sat K β S st a w) {sX:FuncId} {ids:List Nat} {bL:List AV} {aW:List Value} {s':St} {mP:Nat} (hl:aW.length=bL.length) (hr:∀(i:Nat) (x:AV),bL[i]?=some x->∃v,aW[i]?=some v/\aI β S w x v)
  (hv:tC (look st.heap) ids bL=true) (cY:ff P sX (eX (look st.heap) ids bL) s') (hs:0<mP->slot+mP<=st.heap.length) (hf:∀b,slot<=b->b<slot+mP->β b=none)
  (he:wE ids slot mP s'=some e) :
  Calls P sX aW.toArray w fun en w'=>∃v β' S',en=.returned v/\(∀b,b<slot∨slot+mP<=b->β' b=β b)/\Sat K β' S' ⟨st.tmps,eR st.heap e.wr⟩ a w'/\aI β' S' w' e.val v:=by
 unfold tC at hv;simp only[Bool.and_eq_true]at hv;obtain⟨⟨JH,En⟩,ha0⟩:=hv;have hn:ids.Nodup:=by simpa using JH
 have hb:∀b∈ids,∃ao,look st.heap b=some ao/\ao.fE ids=true:=fun b hb=>by
  have:=List.all_eq_true.1 En b hb;split at this
  ·exact⟨_,by assumption,this⟩
  ·cases this
 have ha:∀x∈bL,x.fE ids=true:=List.all_eq_true.1 ha0;unfold wE at he;split at he
 ·rename_i hlen
  cases he;have IM:∀x∈s'.tmps,x.aJ:=fun x hx=>by
   have:=List.all_eq_true.1 hlen.2.2 x hx;cases x<;>first|trivial|(simp[AV.flat]at this)
  have kK:=Mk h hl hr hn hb ha;refine(cY.2 _ _ S { a with tmps:=aW.toArray } w (fun i R hi=>?_) kK).mono ?_
  ·simp only at hi
   split at hi
   ·rename_i bJ;simpa[eX]using bJ
   ·cases hi
  rintro en w' ⟨us,β1,S1,rfl,GL,h1⟩
  have O6:∀b∈ids,b<slot∨slot+mP<=b:=fun b Mm=>by
   obtain⟨ao,e1,_⟩:=hb b Mm;obtain⟨R,e2,_⟩:=h.ao b ao e1;rcases Nat.lt_or_ge b slot with h'|h'
   ·exact .inl h'
   ·rcases Nat.lt_or_ge b (slot+mP) with Hj|Hj
    ·rw[hf b h' Hj]at e2;cases e2
    ·exact .inr Hj
  have Mg:∀b∈ids,b<st.heap.length:=fun b Mm=>by obtain⟨ao,e1,_⟩:=hb b Mm;exact tj e1
  let β2:Nat->Option bZ:=fun b=>if slot<=b/\b<slot+mP then β1 (ids.length+(b-slot)) else β b
  have JO:∀b R,β b=some R->β2 b=some R:=fun b R hR=>by
   show(if _ then _ else _)=_
   rw[if_neg (fun hc=>by rw[hf b hc.1 hc.2]at hR;cases hR)];exact hR
  have rn:∀k R,β1 k=some R->β2 (du ids slot k)=some R:=fun k R hR=>by
   have hk:=h1.top k R hR;unfold du;split
   ·rename_i bJ
    obtain⟨ao,e1,_⟩:=hb _ (iW bJ);obtain⟨R0,e2,_⟩:=h.ao _ ao e1;have e3:=h1.arg k R0 (by simp only;rw[if_pos bJ];exact e2);rw[hR]at e3;cases e3;exact JO _ _ e2
   ·show(if _ then _ else _)=_
    rw[if_pos (by omega),show ids.length+(slot+(k-ids.length)-slot)=k by omega];exact hR
  have Mn:∀c o,EL (eX (look st.heap) ids bL).heap (fun k=>if k<ids.length then β (ids.getD k 0) else none) c o->∃b∈ids,∃ao R,look st.heap b=some ao/\ao.fE ids=true/\β b=some R/\ao.ext R c o:=by
   rintro c o ⟨k,ao,R,g1,g2,g3⟩
   obtain⟨bJ,b0,g4,rfl⟩:=ir g1;obtain⟨b1,g5,g6⟩:=hb _ (iW bJ);rw[g5]at g4;cases g4;rw[aA.jE]at g3;simp only at g2;rw[if_pos bJ]at g2;exact⟨_,iW bJ,_,R,g5,g6,g2,g3⟩
  have aac:(eR st.heap (gR ids slot (du ids slot) s'.heap 0)).length=st.heap.length:=L0 _ _;have oU:(Abs.ids (gR ids slot (du ids slot) s'.heap 0)).Nodup:=by
   rw[qg];refine List.pairwise_map.2 (List.Pairwise.imp_of_mem ?_ (List.nodup_range' (step:=1)));intro i j hi hj Ed he;rw[List.mem_range'_1]at hi hj;exact Ed (EM hn O6 (by omega) (by omega) he)
  have aad:∀k,k<s'.heap.length->du ids slot k<st.heap.length:=fun k hk=>by
   unfold du;split
   ·rename_i bJ;exact Mg _ (iW bJ)
   ·have:=hs (by omega);omega
  have nj:∀k,k<s'.heap.length->look (eR st.heap (gR ids slot (du ids slot) s'.heap 0)) (du ids slot k)=(look s'.heap k).map (aA.aw (du ids slot)):=fun k hk=>by
   have:=(wF (ids:=ids) (slot:=slot) (ρ:=du ids slot) s'.heap 0).2 k hk;rw[Nat.zero_add]at this;exact rq _ _ _ _ oU this (aad k hk)
  let D:Nat->Prop:=fun b=>∃k,k<s'.heap.length/\b=du ids slot k
  have VG:∀b∈ids,D b:=fun b Mm=>by
   obtain⟨g1,g2⟩:=ny Mm;exact⟨posOf b ids,by omega,by unfold du;rw[if_pos g1,g2]⟩
  have Mo:∀b,¬D b->look (eR st.heap (gR ids slot (du ids slot) s'.heap 0)) b=look st.heap b:=fun b hD=>by
   refine Lv _ _ fun hm=>hD ?_
   rw[qg]at hm;obtain⟨k,hk,rfl⟩:=List.mem_map.1 hm;rw[List.mem_range'_1]at hk;exact⟨k,by omega,rfl⟩
  have Hk:∀c o,(w.heap.size<=c∨EL (eX (look st.heap) ids bL).heap (fun k=>if k<ids.length then β (ids.getD k 0) else none) c o)->K.B0<=c∨K.W c o:=by
   rintro c o (hc|hc)
   ·exact .inl (by have:=h.jM.size;unfold Ctx.B0;omega)
   ·obtain⟨b,_,ao,R,g1,_,g3,g4⟩:=Mn c o hc
    obtain⟨R',k1,_,k3,_⟩:=h.ao b ao g1;rw[g3]at k1;cases k1;exact(k3 c o g4).2
  have pO:∀c o,(w.heap.size<=c∨EL (eX (look st.heap) ids bL).heap (fun k=>if k<ids.length then β (ids.getD k 0) else none) c o)->∀b ao R,¬D b->look st.heap b=some ao->β b=some R->¬ao.ext R c o:=by
   rintro c o hc b ao R hD g8 hR hx
   obtain⟨R',k1,_,k3,_⟩:=h.ao b ao g8;rw[hR]at k1;cases k1;rcases hc with hc|hc
   ·have:=(k3 c o hx).1;omega
   ·obtain⟨b2,hm,JR,R2,g1,_,g3,g4⟩:=Mn c o hc
    exact h.mK b2 b JR ao R2 R (fun e=>hD (e▸VG b2 hm)) g1 g8 g3 hR c o g4 hx
  have gz:Sat K β2 S1 ⟨st.tmps,eR st.heap (gR ids slot (du ids slot) s'.heap 0)⟩ a w':=by
   refine h.step (Wr:=EL (eX (look st.heap) ids bL).heap (fun k=>if k<ids.length then β (ids.getD k 0) else none)) D h1.jM (fun c o hx bJ=>?_) JO (fun b R hR=>?_) h1.sub (fun c o ji=>?_) (fun b ao hD g8=>by rw[Mo b hD]at g8;exact g8) (fun b ao hD g8=>?_)
   ·refine⟨fun hsS=>?_,Hk c o (.inr hx),pO c o (.inr hx)⟩
    obtain⟨b,hm,ao,R,g1,g2,g3,g4⟩:=Mn c o hx;obtain⟨R',k1,_,_,k4⟩:=h.ao b ao g1;rw[g3]at k1;cases k1;exact k4 c o (aA.Mj g2 g4) hsS
   ·rw[aac]
    have ia:(if slot<=b/\b<slot+mP then β1 (ids.length+(b-slot)) else β b)=some R:=hR;split at ia
    ·have:=hs (by omega);omega
    ·exact h.top b R ia
   ·rcases h1.sin c o ji with Pa|Pa
    ·exact .inl Pa
    ·exact .inr ⟨h1.sT c o ji,Hk c o Pa,fun b ao R hD g8 hR hx=>pO c o Pa b ao R hD g8 hR (aA.fL hx)⟩
   ·obtain⟨k,hk,rfl⟩:=hD
    rw[nj k hk]at g8;obtain⟨VH,mZ,rfl⟩:=Option.map_eq_some_iff.1 g8;obtain⟨R,q1,q2,q3,q4⟩:=h1.ao k VH mZ;refine⟨R,rn k R q1,q2.fwd h.jM.size rn,fun c o hx=>?_,fun c o hx=>?_,fun b2 JR R2 dh nk mY c o hx hy=>?_⟩
    ·rw[aA.jE]at hx
     exact⟨(q3 c o hx).1,Hk c o (q3 c o hx).2⟩
    ·rw[aA.IL]at hx;exact q4 c o hx
    ·rw[aA.jE]at hx
     by_cases Ly:D b2
     ·obtain⟨k2,GG,rfl⟩:=Ly
      rw[nj k2 GG]at nk;obtain⟨VI,hb3,rfl⟩:=Option.map_eq_some_iff.1 nk;obtain⟨R3,r1,_⟩:=h1.ao k2 VI hb3;have r2:=rn k2 R3 r1;rw[mY]at r2;cases r2;rw[aA.jE]at hy;exact h1.mK k k2 VH VI R R2 (fun e=>dh (by rw[e])) mZ hb3 q1 r1 c o hx hy
     ·rw[Mo b2 Ly]at nk
      have aae:β b2=some R2:=by
       obtain⟨R3,r1,_⟩:=h.ao b2 JR nk;have:=JO b2 R3 r1;rw[mY]at this;cases this;exact r1
      exact pO c o (q3 c o hx).2 b2 JR R2 Ly nk aae hy
  refine⟨_,β2,S1,rfl,fun b wh=>?_,gz,?_⟩
  ·show(if _ then _ else _)=_
   rw[if_neg (by omega)]
  ·refine wz (by rw[GL,List.length_map]) fun i x hi=>?_
   rw[List.getElem?_map]at hi;obtain⟨y,hy,rfl⟩:=Option.map_eq_some_iff.1 hi;have bJ:i<us.length:=by rw[GL];exact(List.getElem?_eq_some_iff.1 hy).1
   have:=h1.tmps i y hy;refine⟨us[i],List.getElem?_eq_getElem bJ,?_⟩;have e1:({ ({ a with tmps:=aW.toArray }:Act) with tmps:=us.toArray }:Act).tmps.getD i undef=us[i]:=by simp[bJ]
   rw[e1]at this;exact this.fwd (IM y (List.mem_of_getElem? hy)) rn
 ·cases he
end
def St.app (st:St) (o:Oper) (e:cR):St:=⟨match o.dst with|some d=>st.tmps.set d e.val|none=>st.tmps,eR st.heap e.wr⟩
def CM (want:Bool):AV->Option Bool
 | .pN []=>some false
 | x=>x.bool?.map (· == want)
def ru:cR:={ val:=.pN [] }
def iJ (tmps:List AV) (ops:List Oper) (o:Oper):Option Bool:=
 match o.guard with
 | none=>some true
 | some (j,want)=>match(ops[j]?).bind (·.dst) with
  | some d=>CM want (tmps.getD d .af)
  | none=>none
theorem CN (g:FuncId):Nat.blt g oQ=decide (g<oQ):=by
 rw[Bool.eq_iff_iff,decide_eq_true_eq,Nat.blt_eq]
def tD (fv:AV) (bL:List AV):Option (FuncId×List AV):=
 match fv with
 | .c (.t (.v (.func (.func g) first cap)))=>if first.size=0/\cap.size=0 then some (g,bL) else none
 | .c (.dA g aN)=>match decide (g<oQ) with
  | true=>some (g,bL++aN.map fun p=>.c (.ptr p.1 p.2.1 p.2.2))
  | false=>some (g-oQ,(aN.map fun p=>.c (.ptr p.1 p.2.1 p.2.2))++bL)
 | _=>none
def fF (P:Program) (C:eA) (ops:List Oper) (slot:Nat) (o:Oper) (st:St) (k:cR->Prop):Prop:=
 match iJ st.tmps ops o with
 | none=>False
 | some false=>k ru
 | some true=>
  match o.op with
  | .call { callee:=.value f,args,.. }=>
   match tD (st.get f) (args.toList.map st.get) with
   | none=>False
   | some (sX,bL)=>
    match C.md sX with
    | .sh _::_=>
     match qf (look st.heap) bL with
     | none=>False
     | some (ids,s)=>∃s',ff P sX s s'/\match wE ids slot (slotsOf C o.op) s' with
      | some e=>k e
      | none=>False
    | ms=>
     match eW (look st.heap) ms bL with
     | none=>False
     | some (as,marks,dV)=>∃res,eP P sX as res/\match gO (look st.heap) slot marks dV res with
      | some e=>k e
      | none=>False
  | op=>match evalOp C slot st.get (look st.heap) op with
   | some e=>k e
   | none=>False
section
variable {P:Program} {C:eA} {K:Ctx} {β:Nat->Option bZ} {S:Place} {st:St} {a:Act} {w:World} {slot:Nat} {e:cR} {o:Oper} {ops:List Oper}
theorem EN {C:eA} {σ:Operand->AV} {h:Hp} {op:Op} (hs:slotsOf C op=0) (s s':Nat):evalOp C s σ h op=evalOp C s' σ h op:=by
 cases op with
 | call c=>
  obtain⟨callee,args,argTypes⟩:=c;cases callee with
  | builtin b=>cases b<;>first|(simp[slotsOf]at hs;done)|rfl|(simp only[evalOp];split<;>first|rfl|simp_all)
  | _=>rfl
 | makeFunc fn first aN=>cases fn<;>rfl
 | _=>first|(simp[slotsOf]at hs;done)|rfl
theorem Mp (hC:bC P C) (h:Sat K β S st a w) (h0:slotsOf C o.op=0) (he:evalOp C slot st.get (look st.heap) o.op=some e) :
  ∃w' β' S' v nx,(execOp a.eval o).run P w=.ok nx w'/\(nx=.value v∨(nx=.skip/\v=undef))/\(∀b,β' b=β b)/\Sat K β' S' ⟨st.tmps,eR st.heap e.wr⟩ a w'/\aI β' S' w' e.val v:=by
 rw[EN h0 slot st.heap.length]at he;obtain⟨w',β',S',v,nx,h1,h2,h3,h4,h5⟩:=IK hC h (fun hn=>absurd h0 hn) he;refine⟨w',β',S',v,nx,h1,h2,fun b=>?_,h4,h5⟩
 by_cases hb:b=st.heap.length
 ·subst hb
  have e1:β st.heap.length=none:=by
   cases hx:β st.heap.length with
   | none=>rfl
   | some R=>have:=h.top _ _ hx;omega
  have e2:β' st.heap.length=none:=by
   cases hx:β' st.heap.length with
   | none=>rfl
   | some R=>have:=h4.top _ _ hx;rw[L0]at this;omega
  rw[e1,e2]
 ·exact h3 b hb
theorem AA (h:Sat K β S st a w) {b:Bool} (hw:iJ st.tmps ops o=some b):Region.wanted o (yielded ops.toArray a.tmps)=b:=by
 unfold iJ at hw;unfold Region.wanted;split at hw
 ·cases hw;simp_all
 ·rename_i j want hg
  rw[hg];simp only;split at hw
  ·rename_i d hd
   have bJ:d<st.tmps.length:=by
    rcases Nat.lt_or_ge d st.tmps.length with h|h
    ·exact h
    ·rw[List.getD_eq_getElem?_getD,List.getElem?_eq_none h]at hw;simp[CM,AV.bool?]at hw
   have hv:=h.tmps d _ (List.getElem?_eq_getElem bJ);rw[List.getD_eq_getElem?_getD,List.getElem?_eq_getElem bJ,Option.getD_some]at hw;unfold CM at hw;split at hw
   ·rename_i hx
    cases hw;rw[hx]at hv;have hun:a.tmps.getD d undef=.tuple #[]:=by
     generalize a.tmps.getD d undef=v at hv;cases hv with
     | pN vs val h1 h2 h3=>
      have:vs=[]:=List.length_eq_zero_iff.1 h1;subst this;rfl
    have tx:d<a.tmps.size:=by rw[h.len];exact bJ
    have hy:yielded ops.toArray a.tmps j=none:=by
     unfold yielded;have:(ops.toArray[j]?).bind (·.dst)=some d:=by simpa using hd
     rw[this];simp only[Option.bind_some];rw[Array.getD_eq_getD_getElem?,Array.getElem?_eq_getElem tx,Option.getD_some]at hun;rw[Array.getElem?_eq_getElem tx,hun]
    rw[hy];rfl
   obtain⟨c,h1,h2⟩:=Option.map_eq_some_iff.1 hw;have hb:=hv.bool h1;have tx:d<a.tmps.size:=by rw[h.len];exact bJ
   have hy:yielded ops.toArray a.tmps j=some c:=by
    unfold yielded;have:(ops.toArray[j]?).bind (·.dst)=some d:=by simpa using hd
    rw[this];simp only[Option.bind_some];rw[Array.getD_eq_getD_getElem?,Array.getElem?_eq_getElem tx,Option.getD_some]at hb;rw[Array.getElem?_eq_getElem tx,hb]
   rw[hy,<-h2];simp
  ·cases hw
theorem lQ (h:Sat K β S ⟨st.tmps,eR st.heap e.wr⟩ a w) {v:Value} (hv:aI β S w e.val v):Sat K β S (st.app o e) (a.put o.dst v) w:=h.put hv o.dst
theorem wG (h:Sat K β S st a w) {f:Operand} {args:Array Operand} {sX:FuncId} {bL:List AV} (hc:tD (st.get f) (args.toList.map st.get)=some (sX,bL))
  {argTypes:Array TypeId} (ho:o.op=.call { callee:=.value f,args,argTypes }) (jx:∃fn,P.funcs[sX]?=some fn/\fn.body.isSome=true/\(fn.name == "runtime.NumGoroutine")=false) :
  ∃aW:List Value,(execOp a.eval o).run P w=.ok (.enter sX aW.toArray) w/\aW.length=bL.length/\∀(i:Nat) (x:AV),bL[i]?=some x->∃v,aW[i]?=some v/\aI β S w x v:=by
 have hf:=h.get f;obtain⟨fn,f1,f2,f3⟩:=jx;have dD:fn.body.isNone=false:=by cases hb:fn.body<;>simp_all
 have di:∀(cap:Array Value),a.eval f=.func (.func sX) #[] cap->(execOp a.eval o).run P w=.ok (.enter sX (args.map a.eval++cap)) w:=by
  intro cap Ea;simp only[execOp,ho,resolve,Ea,Deferred.ofValue,invoke,callFunc,Sem.run_bind,Sem.run_pure,Result.andThen,run_program,f1,f3,dD,Bool.false_eq_true,if_false,Array.empty_append]
 have dM:∀(i:Nat) (x:AV),(args.toList.map st.get)[i]?=some x->∃v,(args.toList.map a.eval)[i]?=some v/\aI β S w x v:=by
  intro i x hi;rw[List.getElem?_map]at hi ⊢;obtain⟨y,h1,rfl⟩:=Option.map_eq_some_iff.1 hi;exact⟨a.eval y,by rw[h1];rfl,h.get y⟩
 unfold tD at hc;split at hc
 ·rename_i g first cap hg
  split at hc
  ·rename_i dY
   cases hc;rw[hg]at hf;obtain⟨hf,_⟩:=hf.scalar;have h1:first=#[]:=Array.eq_empty_of_size_eq_zero dY.1
   have h2:cap=#[]:=Array.eq_empty_of_size_eq_zero dY.2;subst h1 h2;refine⟨args.toList.map a.eval,?_,by simp,dM⟩;rw[di _ hf];congr 2;apply Array.ext';simp
  ·cases hc
 ·rename_i g aN hg
  split at hc
  rotate_left
  ·rename_i Hl
   rw[<-CN]at Hl;generalize hk:g-oQ=k at hc;cases hc;rw[hg]at hf;cases hf with|c hf=>
   generalize Ea:a.eval f=fv at hf;cases hf with|dA vs h1 h2=>
   have hcv:kh g vs=.func (.func sX) vs.toArray #[]:=by rw[Ag Hl,hk]
   clear hk;have ED:(execOp a.eval o).run P w=.ok (.enter sX (vs.toArray++args.map a.eval)) w:=by
    simp only[execOp,ho,resolve,Ea,hcv,Deferred.ofValue,invoke,callFunc,Sem.run_bind,Sem.run_pure,Result.andThen,run_program,f1,f3,dD,Bool.false_eq_true,if_false,Array.append_empty]
   have CO:vs.toArray++args.map a.eval=(vs++args.toList.map a.eval).toArray:=by apply Array.ext';simp
   rw[CO]at ED;refine⟨vs++args.toList.map a.eval,ED,by simp[h1],fun i x hi=>?_⟩;rw[List.getElem?_append]at hi ⊢;simp only[List.length_map]at hi;rw[h1];split at hi
   ·rename_i bJ
    rw[if_pos bJ];rw[List.getElem?_map]at hi;obtain⟨p,q1,rfl⟩:=Option.map_eq_some_iff.1 hi;obtain⟨R,q2,q3⟩:=h2 _ p.1 p.2.1 p.2.2 q1;exact⟨_,q3,.c (.ptr R q2)⟩
   ·rename_i Gx
    rw[if_neg Gx];exact dM _ x hi
  rename_i Hl;rw[<-CN]at Hl;cases hc;rw[hg]at hf;cases hf with|c hf=>
  generalize Ea:a.eval f=fv at hf;cases hf with|dA vs h1 h2=>
  refine⟨args.toList.map a.eval++vs,?_,by simp[h1],fun i x hi=>?_⟩
  ·rw[di _ (by rw[Ea,Af Hl])]
   congr 2;apply Array.ext';simp
  ·rw[List.getElem?_append]at hi ⊢
   simp only[List.length_map]at hi ⊢;split at hi
   ·rename_i bJ
    rw[if_pos bJ];exact dM i x hi
   ·rename_i Gx
    rw[if_neg Gx];rw[List.getElem?_map]at hi;obtain⟨p,q1,rfl⟩:=Option.map_eq_some_iff.1 hi;obtain⟨R,q2,q3⟩:=h2 _ p.1 p.2.1 p.2.2 q1;exact⟨_,q3,.c (.ptr R q2)⟩
 ·cases hc
theorem wH (hC:bC P C) (h:Sat K β S st a w) (jT:∀s,slot<=s->s<slot+slotsOf C o.op->s<st.heap.length/\β s=none) {k:cR->Prop} (hk:fF P C ops slot o st k)
  {next:Act->World->Prop} {Q:Exit->Act->World->Prop} (hn:∀e w' v β' S',k e->Sat K β' S' (st.app o e) (a.put o.dst v) w'->(∀b,b<slot∨slot+slotsOf C o.op<=b->β' b=β b)->next (a.put o.dst v) w') :
  if Region.wanted o (yielded ops.toArray a.tmps) then o.wp P a w next Q∨(o.asks P a w/\LetsOut Q) else next (a.put o.dst undef) w:=by
 unfold fF at hk;split at hk
 ·exact hk.elim
 ·rename_i hw
  rw[AA h hw];simp only[Bool.false_eq_true,if_false];exact hn ru w undef β S hk (lQ h (.pN [] (fun _=>undef) rfl (by simp) (by simp))) fun _ _=>rfl
 ·rename_i hw
  rw[AA h hw];simp only[if_true];left;unfold Oper.wp;split at hk
  ·rename_i f args argTypes eQ
   split at hk
   ·exact hk.elim
   ·rename_i sX bL hc
    split at hk
    ·rename_i n0 Ye Ol
     split at hk
     ·exact hk.elim
     ·rename_i ids s hp
      obtain⟨s',cY,hk⟩:=hk;split at hk
      ·rename_i e he
       simp only[qf]at hp;split at hp
       ·rename_i hvo
        cases hp;obtain⟨aW,h1,h2,h3⟩:=wG h hc eQ cY.1;rw[h1];refine(Ml h h2 h3 hvo cY (fun h0=>by have:=(jT (slot+(slotsOf C o.op-1)) (by omega) (by omega)).1;omega) (fun b e1 e2=>(jT b e1 e2).2) he).mono ?_
        rintro en w' ⟨v,β',S',rfl,q1,q2,q3⟩
        exact hn e w' v β' S' hk (lQ q2 q3) q1
       ·cases hp
      ·exact hk.elim
    ·rename_i Mq
     split at hk
     ·exact hk.elim
     ·rename_i as marks dV hp
      obtain⟨res,cY,hk⟩:=hk;split at hk
      ·rename_i e he
       obtain⟨aW,h1,h2,h3⟩:=wG h hc eQ cY.1;rw[h1];have h2s:slotsOf C o.op=2:=by
        rw[eQ];cases f with
        | func f'=>
         have XJ:f'=sX:=by
          simp only[St.get,tD]at hc;split at hc
          ·cases hc;rfl
          ·cases hc
         subst XJ;show(match C.md f' with|.sh n::_=>n|_=>2)=2
         split
         ·rename_i Ol;exact absurd Ol (Mq _ _)
         ·rfl
        | _=>rfl
       rw[h2s]at jT hn;refine(Hg h h2 h3 hp cY (by have:=jT (slot+1) (by omega) (by omega);omega) (fun b e1 e2=>(jT b e1 e2).2) he).mono ?_
       rintro en w' ⟨v,β',S',rfl,q1,q2,q3⟩
       exact hn e w' v β' S' hk (lQ q2 q3) q1
      ·exact hk.elim
  ·rename_i op Um
   split at hk
   ·rename_i e he
    by_cases h0:slotsOf C o.op=0
    ·obtain⟨w',β',S',v,nx,q1,q2,q3,q4,q5⟩:=Mp hC h h0 he
     rw[q1];rcases q2 with rfl|⟨rfl,rfl⟩
     ·exact hn e w' v β' S' hk (lQ q4 q5) fun b _=>q3 b
     ·exact hn e w' undef β' S' hk (lQ q4 q5) fun b _=>q3 b
    ·have h1:slotsOf C o.op=1:=by
      cases eQ:o.op with
      | call c=>
       obtain⟨callee,args,argTypes⟩:=c;cases callee with
       | value f=>exact absurd eQ (by intro hh;exact Um _ _ _ hh)
       | builtin b=>rw[eQ]at h0;cases b<;>first|rfl|exact absurd rfl h0
       | invoke r m=>rw[eQ]at h0;exact absurd rfl h0
      | _=>rw[eQ]at h0;first|rfl|exact absurd rfl h0
     rw[h1]at jT hn;obtain⟨hs,hf⟩:=jT slot (Nat.le_refl _) (by omega);obtain⟨w',β',S',v,nx,q1,q2,q3,q4,q5⟩:=IK hC h (fun _=>⟨hs,hf⟩) he;rw[q1];rcases q2 with rfl|⟨rfl,rfl⟩
     ·exact hn e w' v β' S' hk (lQ q4 q5) fun b hb=>q3 b (by omega)
     ·exact hn e w' undef β' S' hk (lQ q4 q5) fun b hb=>q3 b (by omega)
   ·exact hk.elim
end
def bG (C:eA):List Oper->Nat
 | []=>0
 | o::os=>slotsOf C o.op+bG C os
def wJ (P:Program) (C:eA) (ops:List Oper):List Oper->Nat->St->List cR->(List cR->St->Prop)->Prop
 | [],_,st,tr,Q=>Q tr st
 | o::os,slot,st,tr,Q=>fF P C ops slot o st fun e=>wJ P C ops os (slot+slotsOf C o.op) (st.app o e) (tr ++ [e]) Q
def St.ext (st:St) (n:Nat):St:=⟨st.tmps,st.heap++List.replicate n none⟩
inductive bq where
 | normal
 | exit (id:Nat)
 | ret
 deriving DecidableEq
def toA:Exit->Option bq
 | .normal=>some .normal
 | .exit id=>some (.exit id)
 | .ret=>some .ret
 | _=>none
def Mr (K:Ctx) (Q:bq->St->Prop):Exit->Act->World->Prop:=fun e a w=>∃x st,toA e=some x/\Q x st/\∃β S,Sat K β S st a w
def dN (P:Program) (n0:Nat) (c:Code) (st:St) (Q:bq->St->Prop):Prop:=
 ∀(K:Ctx),(∀i R,K.β0 i=some R->i<n0)->∀(β:Nat->Option bZ) (S:Place) (a:Act) (w:World),Sat K β S st a w->c.wp P (Mr K Q) a w
section
variable {P:Program} {C:eA} {K:Ctx} {β:Nat->Option bZ} {S:Place} {st:St} {a:Act} {w:World} {slot:Nat} {e:cR} {o:Oper} {ops:List Oper} {n0:Nat} {Q Q':bq->St->Prop}
theorem wK (h:bU) (n b:Nat):look (h++List.replicate n none) b=look h b:=by
 unfold look;rw[List.getElem?_append];split
 ·rfl
 ·rename_i Gx
  rw[List.getElem?_eq_none (l:=h) (by omega),List.getElem?_replicate];split<;>rfl
theorem Sat.ext (h:Sat K β S st a w) (n:Nat):Sat K β S (st.ext n) a w:=
 ⟨h.len,h.defers,h.tmps,fun b R hb=>by have:=h.top b R hb;simp[St.ext];omega,fun b ao hb=>h.ao b ao (by rw[<-wK st.heap n b];exact hb),
  fun b b' ao dj R R' dh hb bQ=>h.mK b b' ao dj R R' dh (by rw[<-wK st.heap n b];exact hb) (by rw[<-wK st.heap n b'];exact bQ),h.sT,h.sin,h.sub,h.jM,h.arg⟩
theorem wL (st:St) (o:Oper) (e:cR):(st.app o e).heap.length=st.heap.length:=L0 _ _
theorem wM (hC:bC P C):∀(os pre:List Oper) (slot:Nat) (st:St) (tr:List cR) (β:Nat->Option bZ) (S:Place) (a:Act) (w:World),ops=pre++os->Sat K β S st a w ->
  (∀s,slot<=s->s<slot+bG C os->s<st.heap.length/\β s=none)->wJ P C ops os slot st tr (fun _ tE=>Q .normal tE) ->
  wpOps P ops.toArray (Mr K Q) (List.range' pre.length os.length) a w
 | [],pre,slot,st,tr,β,S,a,w,_,h,_,hk=>by
  simp only[List.length_nil,List.range'_zero,wpOps];exact⟨.normal,st,rfl,hk,β,S,h⟩
 | o::os,pre,slot,st,tr,β,S,a,w,VJ,h,jT,hk=>by
  simp only[List.length_cons,List.range'_succ,wpOps];have gn:ops.toArray[pre.length]?=some o:=by simp[VJ]
  rw[gn];simp only[bG]at jT;refine wH hC h (fun s h1 h2=>jT s h1 (by omega)) hk fun e w' v β' S' yr sW hβ'=>?_
  have:=wM hC os (pre ++ [o]) (slot+slotsOf C o.op) (st.app o e) (tr ++ [e]) β' S' (a.put o.dst v) w' (by rw[VJ];simp) sW (fun s h1 h2=>by
   obtain⟨e1,e2⟩:=jT s (by omega) (by omega);exact⟨by rw[wL];exact e1,by rw[hβ' s (by omega)];exact e2⟩) yr
  rwa[List.length_append]at this
theorem dN.region (hC:bC P C) {id:Nat} {ops:Array Oper} (hk:wJ P C ops.toList ops.toList st.heap.length (st.ext (bG C ops.toList)) [] fun _ tE=>Q .normal tE):dN P n0 (.region id ops false) st Q:=by
 intro K hn β S a w h;refine wp_region ?_;have:=wM (K:=K) (Q:=Q) hC ops.toList [] st.heap.length (st.ext (bG C ops.toList)) [] β S a w rfl (h.ext _) (fun s h1 h2=>by
  refine⟨by simp[St.ext];omega,?_⟩;cases hx:β s with
  | none=>rfl
  | some R=>have:=h.top s R hx;omega) hk
 rw[List.range_eq_range'];simpa using this
theorem dN.mono {c:Code} (h:dN P n0 c st Q) (hq:∀e s,Q e s->Q' e s):dN P n0 c st Q':=fun K hn β S a w hs=>
 wp_mono (h K hn β S a w hs) fun e a' w' ⟨x,s,h1,h2,h3⟩=>⟨x,s,h1,hq _ _ h2,h3⟩
theorem dN.skip (h:Q .normal st):dN P n0 .skip st Q:=fun K hn β S a w hs=>wp_skip ⟨.normal,st,rfl,h,β,S,hs⟩
theorem dN.exit {id:Nat} (h:Q (.exit id) st):dN P n0 (.exit id) st Q:=fun K hn β S a w hs=>wp_exit ⟨.exit id,st,rfl,h,β,S,hs⟩
theorem dN.ret (h:Q .ret st):dN P n0 .ret st Q:=fun K hn β S a w hs=>wp_ret ⟨.ret,st,rfl,h,β,S,hs⟩
def VK (P:Program) (n0:Nat) (y:Code) (Q:bq->St->Prop):bq->St->Prop
 | .normal,s=>dN P n0 y s Q
 | e,s=>Q e s
theorem dN.seq {x y:Code} (h:dN P n0 x st (VK P n0 y Q)):dN P n0 (.seq x y) st Q:=fun K hn β S a w hs=>
 wp_seq (wp_mono (h K hn β S a w hs) fun e a' w' ⟨x,s,h1,h2,β',S',h3⟩=>by
  cases e with
  | normal=>cases h1;exact h2 K hn β' S' a' w' h3
  | exit id=>cases h1;exact⟨_,s,rfl,h2,β',S',h3⟩
  | ret=>cases h1;exact⟨_,s,rfl,h2,β',S',h3⟩
  | _=>cases h1)
theorem dN.cond {c:Operand} {x y:Code} {b:Bool} (hc:(st.get c).bool?=some b) (h:dN P n0 (if b then x else y) st Q):dN P n0 (.cond c x y) st Q:=fun K hn β S a w hs=>
 wp_cond ((hs.get c).bool hc) (h K hn β S a w hs)
def CQ (id:Nat) (Q:bq->St->Prop):bq->St->Prop
 | .exit Ef,s=>if Ef=id then Q .normal s else Q (.exit Ef) s
 | e,s=>Q e s
theorem dN.block {id:Nat} {c:Code} (h:dN P n0 c st (CQ id Q)):dN P n0 (.block id c) st Q:=fun K hn β S a w hs=>
 wp_block (wp_mono (h K hn β S a w hs) fun e a' w' ⟨x,s,h1,h2,h3⟩=>by
  cases e with
  | normal=>cases h1;exact⟨_,s,rfl,h2,h3⟩
  | exit Ef=>
   cases h1;unfold Exit.inBlock;unfold CQ at h2;simp only at h2 ⊢;split
   ·rename_i JV;rw[if_pos JV]at h2;exact⟨_,s,rfl,h2,h3⟩
   ·rename_i JV;rw[if_neg JV]at h2;exact⟨_,s,rfl,h2,h3⟩
  | ret=>cases h1;exact⟨_,s,rfl,h2,h3⟩
  | _=>cases h1)
def QX (I:Nat->St->Prop) (n:Nat) (Q:bq->St->Prop):bq->St->Prop
 | .normal,s=>∃m,m<n/\I m s
 | e,s=>Q e s
theorem dN.loop {c:Code} (I:Nat->St->Prop) (round:∀n s,I n s->dN P n0 c s (QX I n Q)) {n:Nat} (h0:I n st):dN P n0 (.loop c) st Q:=by
 intro K hn β S a w hs b k cs;have key:∀n s β S a w,I n s->Sat K β S s a w ->
   ∃e a' w',Mr K Q e a' w'/\Arrives P (lone (b.at a (.code c :: .inLoop c::k)) cs w) b k cs e a' w':=by
  intro n
  induction n using Nat.strongRecOn with
  | _ n ih=>
   intro s β S a w hI hs;obtain⟨e,a₁,w₁,⟨x,s1,h1,h2,β1,S1,h3⟩,CO⟩:=round n s hI K hn β S a w hs b (.inLoop c::k) cs;cases e with
   | normal=>
    cases h1;obtain⟨m,hm,hI1⟩:=h2;obtain⟨e₂,a₂,w₂,hq₂,VL⟩:=ih m hm s1 β1 S1 a₁ w₁ hI1 h3;exact⟨e₂,a₂,w₂,hq₂,.of_steps (Steps.trans CO (.one step_inLoop)) VL⟩
   | exit id=>cases h1;exact⟨_,a₁,w₁,⟨_,s1,rfl,h2,β1,S1,h3⟩,.pass (x:=.inLoop c) rfl (fun _ _=>.inl (by simp)) CO⟩
   | ret=>cases h1;exact⟨_,a₁,w₁,⟨_,s1,rfl,h2,β1,S1,h3⟩,.pass (x:=.inLoop c) rfl (fun _ _=>.inl (by simp)) CO⟩
   | _=>cases h1
 obtain⟨e,a',w',hq,CO⟩:=key n st β S a w h0 hs;exact⟨e,a',w',hq,.of_steps (.one step_loop) CO⟩
structure St.Le (s s':St):Prop where
 len:s'.tmps.length=s.tmps.length
 hlen:s'.heap.length<=s.heap.length
 tmps:∀(i:Nat) (x:AV),s'.tmps[i]?=some x->x=.af∨s.tmps[i]?=some x
 heap:∀b ao,look s'.heap b=some ao->look s.heap b=some ao
def Cell.aO (n:Nat):Cell->Bool
 | .t _=>true
 | .ptr b _ _=>decide (b<n)
 | .tp _ _=>true
 | .sl b _ _ _=>decide (b<n)
 | .mp b=>decide (b<n)
 | .dA _ aN=>aN.all fun p=>decide (p.1<n)
mutual
def AV.aO (n:Nat):AV->Bool
 | .c x=>x.aO n
 | .agg l=>l.all (·.aO n)
 | .pN l=>vB n l
 | .af=>true
def vB (n:Nat):List AV->Bool
 | []=>true
 | x::l=>x.aO n&&vB n l
end
def aA.aO (n:Nat):aA->Bool
 | .var cells=>cells.all (·.aO n)
 | _=>true
def St.aO (s:St):Bool:=s.tmps.all (·.aO s.heap.length)&&s.heap.all fun o=>match o with|some b=>b.aO s.heap.length|none=>true
theorem dv.cut {n:Nat} {c:Cell} {v:Value} (h:dv β S w c v) (hb:c.aO n=true):dv (fun b=>if b<n then β b else none) S w c v:=by
 cases h with
 | t h=>exact .t h
 | ptr R h=>exact .ptr R (by simp only[Cell.aO,decide_eq_true_eq]at hb;rw[if_pos hb];exact h)
 | tp cb co val h=>exact .tp cb co val h
 | sl R base cap h h1 h2 h3 h4 h5=>exact .sl R base cap (by simp only[Cell.aO,decide_eq_true_eq]at hb;rw[if_pos hb];exact h) h1 h2 h3 h4 h5
 | mp R h=>exact .mp R (by simp only[Cell.aO,decide_eq_true_eq]at hb;rw[if_pos hb];exact h)
 | dA vs h1 h2=>
  refine .dA vs h1 fun i b r c hi=>?_
  obtain⟨R,e1,e2⟩:=h2 i b r c hi;have:=List.all_eq_true.1 hb _ (List.mem_of_getElem? hi);exact⟨R,by rw[if_pos (by simpa using this)];exact e1,e2⟩
theorem uK {n:Nat}:∀ {l:List AV},vB n l=true->∀(i:Nat) (x:AV),l[i]?=some x->x.aO n=true
 | [],_,i,x,hi=>by simp at hi
 | y::l,h,i,x,hi=>by
  simp only[vB,Bool.and_eq_true]at h;cases i with
  | zero=>simp at hi;subst hi;exact h.1
  | succ i=>exact uK h.2 i x (by simpa using hi)
theorem aI.cut {n:Nat} {x:AV} {v:Value} (h:aI β S w x v):x.aO n=true->aI (fun b=>if b<n then β b else none) S w x v:=by
 induction h with
 | c h=>intro hb;exact .c (h.cut (by simpa[AV.aO]using hb))
 | agg vs h1 h2=>
  intro hb;refine .agg vs h1 fun i c hi=>?_
  obtain⟨v,e1,e2⟩:=h2 i c hi;simp only[AV.aO]at hb;exact⟨v,e1,e2.cut (List.all_eq_true.1 hb c (List.mem_of_getElem? hi))⟩
 | pN vs val h1 h2 _ ih=>
  intro hb;simp only[AV.aO]at hb;exact .pN vs val h1 h2 fun i x hi=>ih i x hi (uK hb i x hi)
 | af v=>intro _;exact .af v
theorem Sat.weaken {s s':St} (h:Sat K β S s a w) (hl:s.Le s') (hb:s'.aO=true) (hn:∀i R,K.β0 i=some R->i<s'.heap.length):Sat K (fun b=>if b<s'.heap.length then β b else none) S s' a w:=by
 simp only[St.aO,Bool.and_eq_true]at hb;refine⟨by rw[hl.len];exact h.len,h.defers,fun t x ht=>?_,fun b R hR=>?_,fun b ao g8=>?_,fun b b' ao dj R R' dh h1 h2 hR ia=>?_,h.sT,h.sin,h.sub,h.jM,fun i R hi=>by rw[if_pos (hn i R hi)];exact h.arg i R hi⟩
 ·rcases hl.tmps t x ht with rfl|hx
  ·exact .af _
  ·exact(h.tmps t x hx).cut (List.all_eq_true.1 hb.1 x (List.mem_of_getElem? ht))
 ·split at hR
  ·assumption
  ·cases hR
 ·obtain⟨R,e1,e2,e3,e4⟩:=h.ao b ao (hl.heap b ao g8)
  have bJ:=tj g8;refine⟨R,by rw[if_pos bJ];exact e1,?_,e3,e4⟩;cases ao with
  | var cells=>
   refine⟨e2.1,fun j c hj=>?_⟩;obtain⟨v,f1,f2⟩:=e2.2 j c hj;have hm:some (aA.var cells)∈s'.heap:=by
    unfold look at g8;cases hx:s'.heap[b]? with
    | none=>rw[hx]at g8;cases g8
    | some y=>rw[hx]at g8;simp at g8;subst g8;exact List.mem_of_getElem? hx
   have:=List.all_eq_true.1 hb.2 _ hm;simp only[aA.aO]at this;exact⟨v,f1,f2.cut (List.all_eq_true.1 this c (List.mem_of_getElem? hj))⟩
  | rows sz rows g fz=>exact e2
  | map de=>exact e2
  | gL sz rows=>exact e2
 ·have l1:=tj h1
  have l2:=tj h2;rw[if_pos l1]at hR;rw[if_pos l2]at ia;exact h.mK b b' ao dj R R' dh (hl.heap _ _ h1) (hl.heap _ _ h2) hR ia
theorem dN.weaken {c:Code} {s s':St} (hl:s.Le s') (hb:s'.aO=true) (hk:n0<=s'.heap.length) (h:dN P n0 c s' Q):dN P n0 c s Q:=fun K hn β S a w hs=>h K hn _ S a w (hs.weaken hl hb fun i R hi=>Nat.lt_of_lt_of_le (hn i R hi) hk)
end
def dC:Nat->List Arg->List AV
 | _,[]=>[]
 | i,.val x::as=>x.av::dC (i+1) as
 | i,.fu _ rows::as=>.c (.sl i 0 rows.length false)::dC (i+1) as
 | i,.own _ rows::as=>.c (.sl i 0 rows.length false)::dC (i+1) as
 | i,.ref _::as=>.c (.ptr i 0 0)::dC (i+1) as
 | i,.dA f aN::as=>.c (.dA f aN)::dC (i+1) as
 | _,.gh _::_=>[]
def gd (args:List Arg) (ntmps:Nat):St:=⟨dC 0 args++List.replicate (ntmps-kM args) .af,args.map Arg.ao⟩
def gH (C:eA) (st:St):ResultVar->Option AV
 | .tmp t=>some (st.tmps.getD t .af)
 | .cell a t=>match C.ty t,st.tmps.getD a .af with
  | some ti,.c (.ptr b 0 c)=>match look st.heap b with
   | some (.var cells)=>dn ti cells c
   | _=>none
  | _,_=>none
def Arg.rc:Arg->Option RC
 | .val x=>some (.val x)
 | .own sz rows=>some (.own sz rows)
 | _=>none
def pq (h:Hp) (i:Nat):Arg->Option (Option aA)
 | .fu sz rows=>match h i with
  | some (.rows lA r false false)=>if lA=sz/\r.length=rows.length then some (some (.rows sz r false false)) else none
  | _=>none
 | .ref cells=>match h i with
  | some (.var cs)=>match bS h cs with
   | some (_,[])=>if cs.length=cells.length then some (some (.var cs)) else none
   | _=>none
  | _=>none
 | .gh cells=>match h i with
  | some (.var cs)=>match bS h cs with
   | some (_,[])=>if cs.length=cells.length then some (some (.var cs)) else none
   | _=>none
  | _=>none
 | _=>some none
def qh (h:Hp):Nat->List Arg->Option (List (Option aA))
 | _,[]=>some []
 | i,a::as=>match pq h i a,qh h (i+1) as with
  | some o,some os=>some (o::os)
  | _,_=>none
def Arg.JX:Arg->Bool
 | .fu _ _=>true
 | .ref _=>true
 | .gh _=>true
 | _=>false
def rv (heap:bU) (bL:List AV) (args:List Arg) (om:List Mode):Option ko:=
 match da (look heap) om bL with
 | none=>none
 | some (as,marks,dV)=>
  let is:=dV.filterMap bK.id
  if decide is.Nodup&&is.all (fun i=>!(ids marks).contains i)&&is.all (fun i=>match args[i]? with|some a=>!a.JX|none=>true) then
   match as.mapM Arg.rc,qh (look (eR heap marks)) 0 args with
   | some JY,some outs=>some ⟨JY,outs⟩
   | _,_=>none
  else none
def finish (C:eA) (st:St) (args:List Arg) (Lz:List ResultVar) (om:List Mode):Option ko:=
 match Lz.mapM (gH C st) with
 | none=>none
 | some bL=>rv st.heap bL args om
section
variable {P:Program} {C:eA} {K:Ctx} {β:Nat->Option bZ} {S:Place} {st:St} {a:Act} {w:World} {f:FuncId}
def aah (i:Nat):Arg->AV
 | .val x=>x.av
 | .fu _ rows=>.c (.sl i 0 rows.length false)
 | .own _ rows=>.c (.sl i 0 rows.length false)
 | .ref _=>.c (.ptr i 0 0)
 | .dA f aN=>.c (.dA f aN)
 | .gh _=>.af
theorem iv:∀(args:List Arg) (i0 i:Nat) (x:AV),(dC i0 args)[i]?=some x->i<kM args/\∃y,args[i]?=some y/\(∀ts,y ≠ .gh ts)/\x=aah (i0+i) y
 | [],_,_,_,h=>by simp[dC]at h
 | .gh ts::as,i0,i,x,h=>by simp[dC]at h
 | .val y::as,i0,0,x,h=>by simp[dC]at h;exact⟨by simp[kM],_,rfl,by simp,h.symm⟩
 | .fu s r::as,i0,0,x,h=>by simp[dC]at h;exact⟨by simp[kM],_,rfl,by simp,h.symm⟩
 | .own s r::as,i0,0,x,h=>by simp[dC]at h;exact⟨by simp[kM],_,rfl,by simp,h.symm⟩
 | .ref r::as,i0,0,x,h=>by simp[dC]at h;exact⟨by simp[kM],_,rfl,by simp,h.symm⟩
 | .dA f r::as,i0,0,x,h=>by simp[dC]at h;exact⟨by simp[kM],_,rfl,by simp,h.symm⟩
 | .val y::as,i0,i+1,x,h=>by
  obtain⟨h1,z,h2,h3,h4⟩:=iv as (i0+1) i x (by simpa[dC]using h);exact⟨by simp[kM];omega,z,by simpa using h2,h3,by rw[h4,show i0+1+i=i0+(i+1) by omega]⟩
 | .fu s r::as,i0,i+1,x,h=>by
  obtain⟨h1,z,h2,h3,h4⟩:=iv as (i0+1) i x (by simpa[dC]using h);exact⟨by simp[kM];omega,z,by simpa using h2,h3,by rw[h4,show i0+1+i=i0+(i+1) by omega]⟩
 | .own s r::as,i0,i+1,x,h=>by
  obtain⟨h1,z,h2,h3,h4⟩:=iv as (i0+1) i x (by simpa[dC]using h);exact⟨by simp[kM];omega,z,by simpa using h2,h3,by rw[h4,show i0+1+i=i0+(i+1) by omega]⟩
 | .ref r::as,i0,i+1,x,h=>by
  obtain⟨h1,z,h2,h3,h4⟩:=iv as (i0+1) i x (by simpa[dC]using h);exact⟨by simp[kM];omega,z,by simpa using h2,h3,by rw[h4,show i0+1+i=i0+(i+1) by omega]⟩
 | .dA f r::as,i0,i+1,x,h=>by
  obtain⟨h1,z,h2,h3,h4⟩:=iv as (i0+1) i x (by simpa[dC]using h);exact⟨by simp[kM];omega,z,by simpa using h2,h3,by rw[h4,show i0+1+i=i0+(i+1) by omega]⟩
theorem pt:∀(args:List Arg) (i0:Nat),(dC i0 args).length=kM args
 | [],_=>rfl
 | x::as,i0=>by cases x<;>simp[dC,kM,pt as]
theorem Ms:∀(args:List Arg),kM args<=args.length
 | []=>Nat.le_refl _
 | x::as=>by have:=Ms as;cases x<;>simp[kM]<;>omega
theorem Mt (args:List Arg) (b:Nat):look (args.map Arg.ao) b=(args[b]?).bind Arg.ao:=by
 unfold look;rw[List.getElem?_map];cases args[b]? <;> rfl
theorem AD {args:List Arg} {aW:List Value} {Rs:Nat->bZ} (hp:ox args S w aW Rs) (n:Nat) :
  Sat ⟨w,nq args Rs,S,βA args Rs⟩ (βA args Rs) S (gd args n)
   { tmps:=(aW.take (kM args)).toArray++Array.replicate (n-(aW.take (kM args)).length) undef,defers:=[] } w:=by
 have Uo:=Ms args;have L9:(aW.take (kM args)).length=kM args:=by rw[List.length_take,hp.len];omega
 have pZ:∀b ao,look (args.map Arg.ao) b=some ao->∃x,args[b]?=some x/\x.ao=some ao:=by
  intro b ao hb;rw[Mt]at hb;obtain⟨x,h1,h2⟩:=Option.bind_eq_some_iff.1 hb;exact⟨x,h1,h2⟩
 have hβ:∀b x ao,args[b]?=some x->x.ao=some ao->βA args Rs b=some (Rs b):=by
  intro b x ao h1 h2;unfold βA;rw[if_pos];rw[h1];simp[h2]
 refine⟨by simp[gd,pt,L9],rfl,fun t x ht=>?_,fun b R hb=>?_,fun b ao hb=>?_,fun b b' ao dj R R' dh hb bQ hR ia c o hx hy=>?_,hp.sT,fun c o hs=>.inl hs,fun c o hs=>hs,fp.refl _ _,fun i R hi=>hi⟩
 ·simp only[gd]at ht
  rw[List.getElem?_append]at ht;split at ht
  ·rename_i bJ
   obtain⟨h0,y,h1,hng,h2⟩:=iv _ _ _ _ ht;obtain⟨v,h3,h4⟩:=hp.ok t y h1;have hv:((aW.take (kM args)).toArray++Array.replicate (n-(aW.take (kM args)).length) undef).getD t undef=v:=by
    rw[Array.getD_eq_getD_getElem?,Array.getElem?_append,if_pos (by rw[List.size_toArray,L9];exact h0)];simp[h3,h0]
   simp only;rw[hv];cases y with
   | val y=>subst h2;exact aI.mono h4 (fun _ _ hx=>by cases hx) (fun _ _ hx=>hx) fun _ _ _=>rfl
   | fu sz rows=>
    subst h2;obtain⟨⟨base,q1,q2⟩,_,_,q3,_⟩:=h4;rw[q1];exact .c (.sl (Rs t) base _ (by rw[Nat.zero_add];exact hβ t _ _ h1 rfl) (fun hh=>by cases hh) (fun _=>by omega) q3 (by omega) (fun h0=>by simpa using q2 h0))
   | own sz rows=>
    subst h2;obtain⟨⟨base,q1,q2⟩,_,_,q3,_⟩:=h4;rw[q1];exact .c (.sl (Rs t) base _ (by rw[Nat.zero_add];exact hβ t _ _ h1 rfl) (fun hh=>by cases hh) (fun _=>by omega) q3 (by omega) (fun h0=>by simpa using q2 h0))
   | ref cells=>
    subst h2;rw[h4.1];have:=dv.ptr (S:=S) (w:=w) (β:=βA args Rs) (b:=0+t) (r:=0) (c:=0) (Rs t) (by rw[Nat.zero_add];exact hβ t _ _ h1 rfl);exact .c (by simpa using this)
   | dA f aN=>subst h2;exact .c (hp.dA t f aN v h1 h3)
   | gh ts=>exact absurd rfl (hng ts)
  ·rw[List.getElem?_replicate]at ht
   split at ht
   ·cases ht;exact .af _
   ·cases ht
 ·unfold βA at hb
  split at hb
  ·rename_i hs
   obtain⟨y,hy⟩:=Option.isSome_iff_exists.1 hs;obtain⟨x,h1,_⟩:=Option.bind_eq_some_iff.1 hy;simpa[gd]using uz h1
  ·cases hb
 ·obtain⟨x,h1,h2⟩:=pZ b ao hb
  obtain⟨v,h3,h4⟩:=hp.ok b x h1;obtain⟨h5,h6⟩:=hp.ext b x ao h1 h2;refine⟨Rs b,hβ b x ao h1 h2,?_,fun c o hx=>⟨h5 c o hx,.inr ⟨b,x,ao,h1,h2,hx⟩⟩,h6⟩;cases x with
  | val=>cases h2
  | fu sz rows=>cases h2;exact h4.2
  | own sz rows=>cases h2;exact h4.2
  | ref cells=>cases h2;exact h4.2.vA
  | dA=>cases h2
  | gh cells=>cases h2;exact h4.2.vA
 ·obtain⟨x,h1,h2⟩:=pZ b ao hb
  obtain⟨x',QJ,IH⟩:=pZ b' dj bQ;rw[hβ b x ao h1 h2]at hR;cases hR;rw[hβ b' x' dj QJ IH]at ia;cases ia;exact hp.mK b b' x x' ao dj dh h1 QJ h2 IH c o hx hy
def CR (tmps:Array Value):ResultVar->Sem Value
 | .tmp t=>pure (tmps.getD t undef)
 | .cell a t=>do loadVar t (<-asAddr (tmps.getD a undef))
theorem Hm (fn:Func) (tmps:Array Value):results fn tmps=(do
  let vs <-fn.results.mapM (CR tmps)
  pure (if h:vs.size=1 then vs[0] else .tuple vs)):=by
 unfold results;congr 2
theorem JZ (hC:bC P C) (h:Sat K β S st a w) {r:ResultVar} {x:AV} (hr:gH C st r=some x) :
  ∃v,(CR a.tmps r).run P w=.ok v w/\aI β S w x v:=by
 have gn:∀t,aI β S w (st.tmps.getD t .af) (a.tmps.getD t undef):=fun t=>h.get (.tmp t)
 cases r with
 | tmp t=>
  simp only[gH]at hr;cases hr;exact⟨_,rfl,gn t⟩
 | cell p t=>
  simp only[gH]at hr;split at hr
  ·rename_i ti b c cZ hp
   split at hr
   ·rename_i cells hb
    have hv:=gn p;rw[hp]at hv;cases hv with|c hv=>
    generalize X8:a.tmps.getD p undef=pv at hv;cases hv with|ptr R hR=>
    obtain⟨R',e1,e2,_⟩:=h.ao b _ hb;rw[hR]at e1;cases e1;obtain⟨u,h3,h4⟩:=qX (P:=P) (jh (hC t ti cZ)) hr e2.2;refine⟨u,?_,h4⟩;simp only[CR,X8,asAddr,Sem.run_bind,Sem.run_pure,Result.andThen];rw[show R.co+0*R.ah+c=R.co+c by omega,h3]
   ·cases hr
  ·cases hr
theorem jU (hC:bC P C) (h:Sat K β S st a w) {fn:Func} {bL:List AV} (hr:fn.results.toList.mapM (gH C st)=some bL) :
  ∃vs:List Value,(results fn a.tmps).run P w=.ok (if vs.length=1 then vs.getD 0 undef else .tuple vs.toArray) w/\vs.length=bL.length/\∀(i:Nat) (x:AV),bL[i]?=some x->∃v,vs[i]?=some v/\aI β S w x v:=by
 have gen:∀(l:List ResultVar) (bL:List AV),l.mapM (gH C st)=some bL->∃vs:List Value,(l.mapM (CR a.tmps)).run P w=.ok vs w/\vs.length=bL.length/\∀(i:Nat) (x:AV),bL[i]?=some x->∃v,vs[i]?=some v/\aI β S w x v:=by
  intro l
  induction l with
  | nil=>intro bL hl;simp at hl;subst hl;exact⟨[],by simp,rfl,by simp⟩
  | cons r l ih=>
   intro bL hl;rw[List.mapM_cons]at hl;cases h1:gH C st r with
   | none=>rw[h1]at hl;cases hl
   | some x=>
    cases h2:l.mapM (gH C st) with
    | none=>rw[h1,h2]at hl;cases hl
    | some xs=>
     rw[h1,h2]at hl;cases hl;obtain⟨v,e1,e2⟩:=JZ (P:=P) hC h h1;obtain⟨vs,f1,f2,f3⟩:=ih xs h2;refine⟨v::vs,?_,by simp[f2],fun i y hi=>?_⟩
     ·simp only[List.mapM_cons,Sem.run_bind,e1,Result.andThen,f1,Sem.run_pure]
     ·cases i with
      | zero=>simp at hi;subst hi;exact⟨v,rfl,e2⟩
      | succ i=>simpa using f3 i y (by simpa using hi)
 obtain⟨vs,f1,f2,f3⟩:=gen _ bL hr;refine⟨vs,?_,f2,f3⟩;have CO:fn.results=fn.results.toList.toArray:=by simp
 rw[Hm,CO,List.mapM_toArray];simp only[Sem.run_bind,Sem.run_map,f1,Result.andThen,Sem.run_pure];congr 1
 by_cases h1:vs.length=1
 ·obtain⟨v,rfl⟩:∃v,vs=[v]:=by
   match vs,h1 with
   | [v],_=>exact⟨v,rfl⟩
  simp
 ·simp[h1]
theorem IN:∀ {as:List Arg} {JY:List RC},as.mapM Arg.rc=some JY->JY.length=as.length/\∀(k:Nat) (r:RC),JY[k]?=some r->∃x:Arg,as[k]?=some x/\x.rc=some r:=fun h=>mapM_some h
theorem wN {h:Hp}:∀ {args:List Arg} {i0:Nat} {outs:List (Option aA)},qh h i0 args=some outs->∀(i:Nat) (o:Option aA),outs[i]?=some o->∃x,args[i]?=some x/\pq h (i0+i) x=some o
 | [],_,outs,ho,i,o,hi=>by simp[qh]at ho;subst ho;simp at hi
 | x::as,i0,outs,ho,i,o,hi=>by
  unfold qh at ho;split at ho
  ·rename_i o1 os h1 h2
   cases ho;cases i with
   | zero=>simp at hi;subst hi;exact⟨x,rfl,h1⟩
   | succ i=>
    obtain⟨y,e1,e2⟩:=wN h2 i o (by simpa using hi);exact⟨y,by simpa using e1,by rw[show i0+(i+1)=i0+1+i by omega];exact e2⟩
  ·cases ho
theorem IP {args:List Arg} {Rs:Nat->bZ} {r0:ko} {S S1:Place} {w w':World} {β':Nat->Option bZ} {a':Act} {tm:List AV} {heap:bU} {om:List Mode} {bL:List AV} {vs:List Value} (hs:Sat ⟨w,nq args Rs,S,βA args Rs⟩ β' S1 ⟨tm,heap⟩ a' w')
  (r2:vs.length=bL.length) (r3:∀(i:Nat) (x:AV),bL[i]?=some x->∃v,vs[i]?=some v/\aI β' S1 w' x v) (gz:rv heap bL args om=some r0):fR args r0 S w Rs (if vs.length=1 then vs.getD 0 undef else .tuple vs.toArray) w':=by
 unfold rv at gz;split at gz
 ·cases gz
 ·rename_i as marks dV VM
  simp only at gz;split at gz
  ·rename_i Ct
   simp only[Bool.and_eq_true]at Ct;obtain⟨⟨Z6,JW⟩,Z7⟩:=Ct;have oU:(dV.filterMap bK.id).Nodup:=by simpa using Z6
   have Ee:∀i∈dV.filterMap bK.id,i ∉ ids marks:=fun i hi=>by
    have:=List.all_eq_true.1 JW i hi;simpa using this
   have fx:∀i∈dV.filterMap bK.id,∀y,args[i]?=some y->y.JX=false:=fun i hi y hy=>by
    have:=List.all_eq_true.1 Z7 i hi;rw[hy]at this;simpa using this
   split at gz
   ·rename_i JY outs VN VO
    cases gz;obtain⟨S2,QP,h2,JK,oT,fM,Rr,kN⟩:=lM (fun b ao hb=>by obtain⟨R,hR,_⟩:=hs.ao b ao hb;exact⟨R,hR⟩) om bL vs heap S1 as marks dV hs (eJ.refl _) r2 r3 VM;have jD:∀(i:Nat) (x:Arg),as[i]?=some x->∃b v,dV[i]?=some b/\vs[i]?=some v/\jC β' (eR heap marks) S2 w' x b (Rr i) v:=by
     intro i x hi;obtain⟨b,v,e1,e2,e3⟩:=kN i x hi;exact⟨b,v,e1,e2,e3.heap fun bi hb=>Lv marks heap (Ee bi (List.mem_filterMap.2 ⟨b,List.mem_of_getElem? e1,hb⟩))⟩
    have So:∀(i:Nat) (f:FuncId) (aN:List (Nat×Nat×Nat)),as[i]? ≠ some (.dA f aN):=by
     intro i f aN hi;have bJ:=uz hi;obtain⟨yv,Sm⟩:=IN VN;obtain⟨r,hr⟩:∃r,JY[i]?=some r:=⟨_,List.getElem?_eq_getElem (by omega)⟩;obtain⟨x,e1,e2⟩:=Sm i r hr;rw[hi]at e1;cases e1;cases e2
    have nu:=qb h2 (by omega) oU jD fun i f aN v hi _=>absurd hi (So i f aN)
    obtain⟨yv,Sm⟩:=IN VN;have CS:∀(k sz:Nat) (rows:List (List Tree)),JY[k]?=some (.own sz rows)->as[k]?=some (.own sz rows):=by
     intro k sz rows hk;obtain⟨x,e1,e2⟩:=Sm k _ hk;cases x with
     | own lA dy=>cases e2;exact e1
     | val=>cases e2
     | fu=>cases e2
     | ref=>cases e2
     | dA=>cases e2
     | gh=>cases e2
    have EO:fR args ⟨JY,outs⟩ S w Rs (if vs.length=1 then vs.getD 0 undef else .tuple vs.toArray) w':=by
     refine⟨S2,Rr,vs,by simp;omega,rfl,h2.jM,h2.sub,fun c o sW=>?_,fun k r hk=>?_,fun k sz rows hk=>?_,fun k l sz lA rows dy dh hk hl'=>?_,fun i ao hi=>?_⟩
     ·rcases h2.sin c o sW with h|h
      ·exact .inl h
      ·exact .inr ⟨h2.sT c o sW,h⟩
     ·obtain⟨x,e1,e2⟩:=Sm k r hk
      obtain⟨v,e3,e4⟩:=nu.ok k x e1;refine⟨v,e3,?_⟩;cases x with
      | val x=>cases e2;exact e4
      | own sz rows=>cases e2;exact e4
      | fu=>cases e2
      | ref=>cases e2
      | dA=>cases e2
      | gh=>cases e2
     ·have h1:=CS k sz rows hk
      obtain⟨b,v,_,_,e3⟩:=jD k _ h1;rcases(e3.uF h2).2 _ rfl with⟨bi,B,RB,g1,g2,g3,g4,g5⟩|⟨_,g⟩
      ·obtain⟨R',k1,_,k3,k4⟩:=h2.ao bi B g2
       rw[g3]at k1;cases k1;exact⟨fun c o hx=>k3 c o (g4 c o hx),fun c o hx=>k4 c o (g5 c o hx)⟩
      ·exact⟨fun c o hx=>absurd hx (g c o),fun c o hx=>absurd (aA.fL hx) (g c o)⟩
     ·exact nu.mK k l _ _ _ _ dh (CS k sz rows hk) (CS l lA dy hl') rfl rfl
     ·obtain⟨x,e1,e2⟩:=wN VO i _ hi
      rw[Nat.zero_add]at e2;have Sp:∀b0,x.ao=some b0->β' i=some (Rs i):=fun b0 En=>h2.arg i (Rs i) (by
       simp only[Abs.βA];rw[if_pos];rw[e1];simp[En])
      have CT:∀(k sz:Nat) (rows:List (List Tree)) (B:aA),x.JX=true->look (eR heap marks) i=some B->β' i=some (Rs i)->JY[k]?=some (.own sz rows)->∀c o,B.ext (Rs i) c o->¬(aA.rows sz rows true false).ext (Rr k) c o:=by
       intro k sz rows B rk hB hR hk c o hx hy;obtain⟨b,v,f1,_,f3⟩:=jD k _ (CS k sz rows hk);rcases(f3.uF h2).2 _ rfl with⟨bi,B',RB,g1,g2,g3,g4,_⟩|⟨_,g⟩
       ·have dh:i≠bi:=by
         rintro rfl
         have:=fx i (List.mem_filterMap.2 ⟨b,List.mem_of_getElem? f1,g1⟩) x e1;rw[rk]at this;cases this
        exact h2.mK i bi B B' (Rs i) RB dh hB g2 hR g3 c o hx (g4 c o hy)
       ·exact g c o hy
      cases x with
      | val=>simp[pq]at e2
      | own=>simp[pq]at e2
      | fu sz rows=>
       simp only[pq]at e2;split at e2
       ·rename_i lA r hb
        split at e2
        ·rename_i hc
         obtain⟨rfl,yv⟩:=hc;cases e2;have hR:=Sp _ rfl;obtain⟨R',k1,k2,k3,k4⟩:=h2.ao i _ hb;rw[hR]at k1;cases k1;refine⟨_,_,e1,rfl,fun c o hx=>?_,k2,k4,fun k Mh nw hk=>CT k Mh nw _ rfl hb hR hk⟩;rw[aA.ext,yv]at hx;exact hx
        ·cases e2
       ·cases e2
      | ref cells=>
       simp only[pq]at e2;split at e2
       ·rename_i cs hb
        split at e2
        ·rename_i ts uC
         split at e2
         ·rename_i GK
          cases e2;have Ar:=Vx uC rfl;subst Ar;have hR:=Sp _ rfl;obtain⟨R',k1,k2,k3,k4⟩:=h2.ao i _ hb;rw[hR]at k1;cases k1;refine⟨_,_,e1,rfl,fun c o hx=>?_,⟨k2.1,fun j c hj=>?_⟩,k4,fun k Mh nw hk=>CT k Mh nw _ rfl hb hR hk⟩
          ·rw[aA.ext,GK]at hx;simpa[aA.ext]using hx
          ·obtain⟨v,q1,q2⟩:=k2.2 j c hj
           obtain⟨t,_,rfl⟩:=qZ hj;refine⟨v,q1,?_⟩;cases q2 with|t q2=>exact .t q2
         ·cases e2
        ·cases e2
       ·cases e2
      | dA=>simp[pq]at e2
      | gh cells=>
       simp only[pq]at e2;split at e2
       ·rename_i cs hb
        split at e2
        ·rename_i ts uC
         split at e2
         ·rename_i GK
          cases e2;have Ar:=Vx uC rfl;subst Ar;have hR:=Sp _ rfl;obtain⟨R',k1,k2,k3,k4⟩:=h2.ao i _ hb;rw[hR]at k1;cases k1;refine⟨_,_,e1,rfl,fun c o hx=>?_,⟨k2.1,fun j c hj=>?_⟩,k4,fun k Mh nw hk=>CT k Mh nw _ rfl hb hR hk⟩
          ·rw[aA.ext,GK]at hx;simpa[aA.ext]using hx
          ·obtain⟨v,q1,q2⟩:=k2.2 j c hj
           obtain⟨t,_,rfl⟩:=qZ hj;refine⟨v,q1,?_⟩;cases q2 with|t q2=>exact .t q2
         ·cases e2
        ·cases e2
       ·cases e2
    exact EO
   ·cases gz
  ·cases gz
theorem px (hC:bC P C) {fn:Func} {c:Code} {args:List Arg} {R:ko->Prop} {om:List Mode} (jx:P.funcs[f]?=some fn) (dD:fn.body=some c)
  (di:dN P args.length c (gd args fn.ntmps) fun e s=>(e=.normal∨e=.ret)/\∃r,R r/\finish C s args fn.results.toList om=some r)
  (S:Place) (w:World) (aW:List Value) (Rs:Nat->bZ) (hp:ox args S w aW Rs):Calls P f (aW.take (kM args)).toArray w fun e w'=>∃v r,e=.returned v/\R r/\fR args r S w Rs v w':=by
 refine calls_of_wp jx dD ?_;have kK:=AD hp fn.ntmps;have dY:(aW.take (kM args)).toArray.size=(aW.take (kM args)).length:=by simp
 rw[dY];refine wp_mono (di _ (fun i R hi=>?_) _ S _ w kK) fun e a' w' ⟨x,s,hx,⟨Sr,r0,OS,gz⟩,β',S1,hs⟩=>?_
 ·simp only[βA]at hi
  split at hi
  ·rename_i h1
   obtain⟨y,hy⟩:=Option.isSome_iff_exists.1 h1;obtain⟨z,h2,_⟩:=Option.bind_eq_some_iff.1 hy;exact uz h2
  ·cases hi
 unfold finish at gz;split at gz
 ·cases gz
 ·rename_i bL Hn
  obtain⟨vs,r1,r2,r3⟩:=jU (P:=P) hC hs Hn;have EO:=IP hs r2 r3 gz;have eU:∃v,(results fn a'.tmps).run P w'=.ok v w'/\∃u r,Ending.returned v=.returned u/\R r/\fR args r S w Rs u w':=⟨_,r1,_,_,rfl,OS,EO⟩;cases e with
  | normal=>exact⟨hs.defers,eU⟩
  | ret=>exact⟨hs.defers,eU⟩
  | exit id=>cases hx;rcases Sr with h|h<;>cases h
  | goto=>cases hx
  | panic=>cases hx
  | outgrown=>cases hx
theorem eP.ry (hC:bC P C) {fn:Func} {c:Code} {args:List Arg} {res:ko} {om:List Mode} (jx:P.funcs[f]?=some fn) (fg:(fn.name == "runtime.NumGoroutine")=false) (dD:fn.body=some c)
  (di:dN P args.length c (gd args fn.ntmps) fun e s=>(e=.normal∨e=.ret)/\finish C s args fn.results.toList om=some res):eP P f args res:=by
 refine⟨⟨fn,jx,by rw[dD];rfl,fg⟩,fun S w aW Rs hp=>(px hC (R:=(·=res)) (om:=om) jx dD (fun K hn β S a w hs=>wp_mono (di K hn β S a w hs) fun e a' w' ⟨x,s,h1,h2,h3⟩=>⟨x,s,h1,⟨h2.1,res,rfl,h2.2⟩,h3⟩) S w aW Rs hp).mono ?_⟩
 rintro e w' ⟨v,r,h1,rfl,h2⟩
 exact⟨v,h1,h2⟩
end
theorem qi (a b:List (Nat×Option aA)):ids (a++b)=ids a++ids b:=by simp[ids]
theorem rA {h h':Hp} {c:Cell} {t:Tree} {m:List (Nat×Option aA)} (ht:toTree h c=some (t,m)) (hh:∀b∈ids m,h' b=h b):toTree h' c=some (t,m):=by
 cases c with
 | t x=>exact ht
 | sl b off len cp=>
  have hb:h' b=h b:=by
   apply hh;unfold toTree at ht;simp only at ht;split at ht
   ·split at ht
    ·cases ht;simp[ids]
    ·cases ht
   ·cases ht
  unfold toTree at ht ⊢;simp only at ht ⊢;rw[hb];exact ht
 | _=>simp[toTree]at ht
theorem Ss {h h':Hp}:∀ {cs:List Cell} {ts:List Tree} {m:List (Nat×Option aA)},bS h cs=some (ts,m)->(∀b∈ids m,h' b=h b)->bS h' cs=some (ts,m)
 | [],ts,m,ht,_=>ht
 | c::cs,ts,m,ht,hh=>by
  unfold bS at ht;split at ht
  ·rename_i t1 m1 h1
   split at ht
   ·rename_i ts2 m2 h2
    cases ht;rw[qi]at hh;have e1:=rA (h':=h') h1 fun b hb=>hh b (List.mem_append_left _ hb)
    have e2:=Ss (h':=h') h2 fun b hb=>hh b (List.mem_append_right _ hb)
    try simp only[bS,e1,e2]
   ·cases ht
  ·cases ht
theorem gS {h h':Hp} {x:AV} {r:List (List Tree)} {rd:List Nat} (hr:rowsOf h x=some (r,rd)) (hh:∀b∈rd,h' b=h b):rowsOf h' x=some (r,rd):=by
 unfold rowsOf at hr ⊢;split at hr
 ·exact hr
 ·rename_i b off len cp
  have hb:h' b=h b:=by
   apply hh;split at hr
   ·split at hr
    ·cases hr;simp
    ·cases hr
   ·split at hr
    ·cases hr;simp
    ·cases hr
   ·cases hr
  try simp only
  rw[hb];exact hr
 ·exact hr
 ·exact hr
 ·cases hr
theorem nA {h h':Hp} {size:Nat}:∀ {pa:List (Nat×AV)} {rows r:List (List Tree)} {m:List (Nat×Option aA)},fC h size rows pa=some (r,m)->(∀b∈ids m,h' b=h b)->fC h' size rows pa=some (r,m)
 | [],rows,r,m,hf,_=>hf
 | (i,v)::pa,rows,r,m,hf,hh=>by
  unfold fC at hf;split at hf
  ·rename_i x hx
   split at hf
   ·rename_i hc
    split at hf
    ·rename_i ts m1 h1
     split at hf
     ·rename_i r2 m2 h2
      cases hf;rw[qi]at hh;have e1:=Ss (h':=h') h1 fun b hb=>hh b (List.mem_append_left _ hb)
      have e2:=nA (h':=h') h2 fun b hb=>hh b (List.mem_append_right _ hb)
      try simp only[fC,hx,e1,e2]
      try rw[if_pos hc]
     ·cases hf
    ·cases hf
   ·cases hf
  ·cases hf
theorem CU {ti:TI} {slot:Nat} {h h':Hp} {s x:AV} {e:cR} (he:kl ti slot h s x=some e) (hh:∀b∈e.rd,h' b=h b):kl ti slot h' s x=some e:=by
 unfold kl at he;split at he
 ·rename_i b off len b' LM LO GD
  split at he
  ·rename_i cs ns hb bQ
   split at he
   ·rename_i hc
    cases he;have e1:h' b=h b:=hh b (by simp);have e2:h' b'=h b':=hh b' (by simp);simp only[kl,e1,e2,hb,bQ];rw[if_pos hc]
   ·cases he
  ·cases he
 ·cases he
theorem nC {ti:TI} {slot:Nat} {h h':Hp} {s x:AV} {e:cR} (he:cN ti slot h s x=some e) (hh:∀b∈e.rd,h' b=h b):cN ti slot h' s x=some e:=by
 unfold cN at he;split at he
 ·have h1:=CU he hh
  unfold cN;rw[uD h1];exact h1
 ·rename_i new oR hr
  split at he
  ·rename_i h0
   split at he
   ·rename_i hs
    cases he;have:=gS (h':=h') hr hh
    try simp only[cN,this]
    try rw[if_pos h0,if_pos hs]
   ·cases he
  ·rename_i h0
   split at he
   ·cases he
   ·rename_i jA
    split at he
    ·rename_i rows
     split at he
     ·rename_i hc
      cases he;have:=gS (h':=h') hr hh
      try simp only[cN,this]
      try rw[if_neg h0,if_neg jA,if_pos hc]
     ·cases he
    ·rename_i b off len cp
     split at he
     ·rename_i sz rows g fz hb
      split at he
      ·cases he
      ·rename_i hc
       have fin:∀rd',e.rd=b::rd'->oR=rd'->cN ti slot h' (.c (.sl b off len cp)) x=cN ti slot h (.c (.sl b off len cp)) x:=by
        rintro rd' e1 rfl
        have e2:=gS (h':=h') hr fun b hb=>hh b (by rw[e1];exact List.mem_cons_of_mem _ hb)
        have e3:h' b=h b:=hh b (by rw[e1];exact List.mem_cons_self ..)
        try simp only[cN,e2,hr,e3]
       have VQ:cN ti slot h (.c (.sl b off len cp)) x=some e:=by
        try simp only[cN,hr,hb]
        try rw[if_neg h0,if_neg jA,if_neg hc]
        exact he
       have hrd:e.rd=b::oR:=by
        split at he
        ·cases he;rfl
        ·split at he
         ·split at he
          ·cases he;rfl
          ·cases he
         ·split at he
          ·cases he;rfl
          ·cases he
       rw[fin oR hrd rfl];exact VQ
     ·cases he
    ·cases he
theorem CV {ti:TI} {h h':Hp} {d x:AV} {e:cR} (he:lG ti h d x=some e) (hh:∀b∈e.rd,h' b=h b):lG ti h' d x=some e:=by
 unfold lG at he;split at he
 ·rename_i src oR b off len cp hr
  split at he
  ·rename_i sz rows g hb
   split at he
   ·rename_i hc
    cases he;have e2:=gS (h':=h') hr fun b hb=>hh b (List.mem_cons_of_mem _ hb)
    have e3:h' b=h b:=hh b (List.mem_cons_self ..)
    try simp only[lG,e2,e3,hb]
    try rw[if_pos hc]
   ·cases he
  ·cases he
 ·cases he
theorem EP {C:eA} {t:TypeId} {h h':Hp} {x:AV} {e:cR} (he:pb C h t x=some e) (hh:∀b∈e.rd,h' b=h b):pb C h' t x=some e:=by
 unfold pb at he ⊢;split at he
 ·cases he
 ·rename_i ti cZ
  try simp only[cZ]
  split at he
  ·exact he
  ·exact he
  ·exact he
  ·exact he
  ·rename_i b hk
   split at he
   ·rename_i de hb
    cases he;have e3:h' b=h b:=hh b (List.mem_cons_self ..)
    try simp only[e3,hb]
   ·cases he
  ·cases he
theorem vc {C:eA} {s d:TypeId} {h h':Hp} {x:AV} {e:cR} (he:eK C h s d x=some e) (hh:∀b∈e.rd,h' b=h b):eK C h' s d x=some e:=by
 unfold eK at he ⊢;split at he
 ·rename_i ts td uC htd
  split at he
  ·simp only[*]
  ·simp only[*]
  ·rename_i el GF GG
   split at he
   ·rename_i te rows rd dx hr
    split at he
    ·rename_i l h1 h2 h3
     cases he;have e2:=gS (h':=h') hr hh
     try simp only[*]
    ·cases he
   ·cases he
  ·cases he
 ·cases he
theorem yw {C:eA} {t:TypeId} {h h':Hp} {x:AV} {lo hi mx:Option AV} {e:cR} (he:dq C h t x lo hi mx=some e) (hh:∀b∈e.rd,h' b=h b):dq C h' t x lo hi mx=some e:=by
 unfold dq at he ⊢;split at he
 ·cases he
 ·rename_i ti cZ
  try simp only[cZ]
  split at he
  ·rename_i l lH m h1 h2 h3
   try simp only[h1,h2,h3]
   split at he
   ·exact he
   ·rename_i el b off len cp hk
    simp only at he ⊢;split at he
    ·rename_i hc
     try rw[if_pos hc]
     split at he
     ·rename_i sz rows g fz te hb dx
      split at he
      ·rename_i JW
       cases he;have e3:h' b=h b:=hh b (List.mem_cons_self ..)
       try simp only[e3,hb,dx]
       try rw[if_pos JW]
      ·cases he
     ·rename_i m' sz rows g fz te hb dx
      split at he
      ·rename_i JW
       cases he;have e3:h' b=h b:=hh b (List.mem_cons_self ..)
       try simp only[e3,hb,dx]
       try rw[if_pos JW]
      ·cases he
     ·rename_i cells te hb dx
      split at he
      ·rename_i JW
       cases he;have e3:h' b=h b:=hh b (List.mem_cons_self ..)
       try simp only[e3,hb,dx]
       try rw[if_pos JW]
      ·cases he
     ·cases he
    ·cases he
   ·exact he
   ·rename_i n el b r c hk
    simp only at he ⊢;split at he
    ·rename_i cells te hb dx
     split at he
     ·rename_i hc
      split at he
      ·rename_i ts uC
       cases he;have e3:h' b=h b:=hh b (List.mem_cons_self ..);simp only[e3,hb,dx];rw[if_pos hc,uC]
      ·cases he
     ·cases he
    ·cases he
   ·cases he
  ·cases he
theorem wO {h h':Hp} {b:Nat}:∀(ws:List (Nat×Option aA)) {h h':Hp},h' b=h b->Em h' ws b=Em h ws b
 | [],h,h',e=>e
 | p::l,h,h',e=>by
  unfold Em;refine wO (h:=h) (h':=h') l ?_;show(match Nat.beq b p.1 with|true=>p.2|false=>h' b)=match Nat.beq b p.1 with|true=>p.2|false=>h b
  rw[e]
theorem gT:∀(l:List (Nat×Nat×Nat)) {h h':Hp} {ws:List (Nat×Option aA)},fD h l=some ws->(∀b∈iG l++ids ws,h' b=h b)->fD h' l=some ws
 | [],h,h',ws,hw,_=>hw
 | (b,r,c)::l,h,h',ws,hw,hh=>by
  have hb:h' b=h b:=hh b (by simp[iG]);unfold fD at hw ⊢;rw[hb];cases hx:h b with
  | none=>
   rw[hx]at hw;exact gT l hw fun x hx=>hh x (by simp only[iG,List.mem_append,List.mem_cons]at hx ⊢;rcases hx with hx|hx;exact .inl (.inr hx);exact .inr hx)
  | some ao=>
   rw[hx]at hw;cases ao with
   | var cells=>
    simp only at hw ⊢;cases hs:LQ cells with
    | true=>
     rw[hs]at hw;simp only at hw ⊢;split at hw
     ·rename_i ts m ht
      split at hw
      ·rename_i ws2 Yd
       cases hw;have e1:=Ss (h':=h') ht fun x hx=>hh x (by simp[iG,ids]at hx ⊢;exact .inr (.inr (.inl hx)))
       have e2:=gT l (h':=Em h' (m ++ [(b,some (.var (ts.map .t)))])) Yd fun x hx=>wO (h:=h) (h':=h') _ (hh x (by
        simp only[iG,ids,List.map_append,List.map_cons,List.mem_append,List.mem_cons]at hx ⊢;rcases hx with hx|hx
        ·exact .inl (.inr hx)
        ·exact .inr (.inr (.inr hx))))
       rw[e1];simp only[e2]
      ·cases hw
     ·cases hw
    | false=>
     rw[hs]at hw;exact gT l hw fun x hx=>hh x (by simp only[iG,List.mem_append,List.mem_cons]at hx ⊢;rcases hx with hx|hx;exact .inl (.inr hx);exact .inr hx)
   | _=>exact gT l hw fun x hx=>hh x (by simp only[iG,List.mem_append,List.mem_cons]at hx ⊢;rcases hx with hx|hx;exact .inl (.inr hx);exact .inr hx)
theorem CW {h h':Hp} {f:FuncId} {l:List (Nat×Nat×Nat)} {e:cR} (he:tg h f l=some e) (hh:∀b∈e.rd,h' b=h b):tg h' f l=some e:=by
 unfold tg at he ⊢;split at he
 ·rename_i ws hw
  cases he;rw[gT l hw hh]
 ·cases he
theorem CX {C:eA} {slot:Nat} {σ:Operand->AV} {h h':Hp} {op:Op} {e:cR} (he:evalOp C slot σ h op=some e) (hh:∀b∈e.rd,h' b=h b):evalOp C slot σ h' op=some e:=by
 cases op with
 | load t a=>
  simp only[evalOp]at he ⊢;split at he
  ·rename_i ti cZ
   try simp only[cZ]
   split at he
   ·rename_i b r c hg
    have hb:b∈e.rd:=by
     split at he
     ·split at he
      ·obtain⟨v,_,rfl⟩:=Option.map_eq_some_iff.1 he;simp
      ·cases he
     ·split at he
      ·obtain⟨v,_,rfl⟩:=Option.map_eq_some_iff.1 he;simp
      ·cases he
     ·cases he
    simp only[hh b hb];exact he
   ·exact he
   ·cases he
  ·cases he
 | store t a x=>
  simp only[evalOp]at he ⊢;split at he
  ·rename_i ti cs cZ pP
   try simp only[cZ,pP]
   split at he
   ·rename_i dY
    try rw[if_pos dY]
    split at he
    ·rename_i b r c hg
     split at he
     ·rename_i cells hb
      split at he
      ·rename_i hc
       cases he;have e3:h' b=h b:=hh b (List.mem_cons_self ..)
       try simp only[e3,hb]
       try rw[if_pos hc]
      ·cases he
     ·rename_i sz rows g hb
      split at he
      ·rename_i row ts m dk uC
       split at he
       ·rename_i hc
        cases he;have e3:h' b=h b:=hh b (List.mem_cons_self ..);have e4:=Ss (h':=h') uC fun b hb=>hh b (List.mem_cons_of_mem _ hb)
        try simp only[e3,hb,dk,e4]
        try rw[if_pos hc]
       ·cases he
      ·cases he
     ·cases he
    ·cases he
   ·cases he
  ·cases he
 | buildSlice t len parts=>
  simp only[evalOp]at he ⊢;split at he
  ·rename_i ti cZ
   try simp only[cZ]
   split at he
   ·rename_i el hk
    split at he
    ·rename_i te dx
     try simp only[dx]
     split at he
     ·rename_i hc
      try rw[if_pos hc]
      split at he
      ·rename_i e1 h1
       cases he;simp only[h1]
      ·rename_i h0
       split at he
       ·rename_i rows m hf
        cases he;rw[nA (h':=h') hf hh]
       ·cases he
     ·cases he
    ·cases he
   ·cases he
  ·cases he
 | convert s d x=>simp only[evalOp]at he ⊢;exact vc he hh
 | slice t x lo hi mx=>simp only[evalOp]at he ⊢;exact yw he hh
 | indexAddr t x i=>
  simp only[evalOp]at he ⊢;split at he
  ·rename_i ti n cZ hn
   try simp only[cZ,hn]
   split at he
   ·exact he
   ·rename_i el hk
    split at he
    ·rename_i te dx
     try simp only[dx]
     split at he
     ·rename_i b off len cp hg
      have hb:b∈e.rd:=by
       split at he
       ·split at he
        ·cases he;simp
        ·cases he
       ·split at he
        ·cases he;simp
        ·cases he
       ·cases he
      simp only[hh b hb];exact he
     ·exact he
     ·cases he
    ·cases he
   ·cases he
  ·cases he
 | lookup t x i ok=>
  simp only[evalOp]at he ⊢;split at he
  ·rename_i ti cZ
   try simp only[cZ]
   split at he
   ·rename_i k el b key hk Cs Ls
    have hb:b∈e.rd:=by
     split at he
     ·split at he
      ·cases he
      ·split at he
       ·cases he;simp
       ·cases he;simp
       ·cases he
     ·cases he
    simp only[hh b hb];exact he
   ·cases he
  ·cases he
 | mapUpdate t x i v=>
  simp only[evalOp]at he ⊢;split at he
  ·rename_i ti cZ
   try simp only[cZ]
   split at he
   ·rename_i k el b key tv hk Cs Ls Vt
    have hb:b∈e.rd:=by
     split at he
     ·split at he
      ·cases he
      ·split at he
       ·cases he;simp
       ·cases he
     ·cases he
    simp only[hh b hb];exact he
   ·cases he
  ·cases he
 | call c=>
  obtain⟨callee,args,argTypes⟩:=c;cases callee with
  | builtin b=>
   simp only[evalOp]at he ⊢;split at he
   ·exact EP he hh
   ·split at he
    ·rename_i ti cZ
     try simp only[cZ]
     split at he
     ·split at he
      ·rename_i te t1 dx yt
       try simp only[dx,yt]
       split at he
       ·rename_i OC CL
        try simp only[CL]
        split at he
        ·split at he
         ·cases he
         ·rename_i hz
          try rw[if_neg hz]
          exact nC he hh
        ·split at he
         ·cases he
         ·rename_i hz
          try rw[if_neg hz]
          exact nC he hh
        ·cases he
       ·cases he
      ·cases he
     ·cases he
    ·cases he
   ·split at he
    ·rename_i ti cZ
     try simp only[cZ]
     split at he
     ·split at he
      ·rename_i te dx
       try simp only[dx]
       split at he
       ·cases he
       ·rename_i hz
        try rw[if_neg hz]
        exact CV he hh
      ·cases he
     ·cases he
    ·cases he
   ·exact he
   ·exact he
   ·cases he
  | _=>simp[evalOp]at he
 | makeFunc fn first aN=>
  cases fn with
  | func f=>
   simp only[evalOp]at he ⊢;split at he
   ·rename_i hz
    rw[if_pos hz];split at he
    ·rename_i l hb hl
     try simp only[hb,hl]
     exact CW he hh
    ·cases he
   ·rename_i hz
    rw[if_neg hz];exact he
  | _=>exact he
 | _=>exact he
end Go.Abs
end
