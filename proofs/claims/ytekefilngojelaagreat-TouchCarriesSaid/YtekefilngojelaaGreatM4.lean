/- A part. -/
import Derived.Laws.IdiomCopy
import Derived.Laws.BytesString
import Derived.Laws.Append
import Derived.Test.YtekefilngojelaaGreatM3
set_option maxHeartbeats 0
set_option maxRecDepth 100000
set_option linter.unusedVariables false
set_option linter.unusedSimpArgs false
set_option linter.unusedSectionVars false
section
namespace Go.Abs
def Flat (S:Place) (w:World) (rows:List (List Tree)) (size:Nat) (vs:List Value):Prop:=
 vs.length=rows.length*size/\∀(i j:Nat) (t:Tree),fo rows i j=some t->∃v,vs[i*size+j]?=some v/\dX S w t v
theorem im {α:Type} {rows:List (List α)} {size i j:Nat} {t:α} (hs:∀r∈rows,r.length=size) (h:fo rows i j=some t):i<rows.length/\j<size/\i*size+j<rows.length*size:=by
 obtain⟨row,h1,h2,h3,h4⟩:=jd h;have hj:j<size:=by rw[<-hs row (List.mem_of_getElem? h1)];exact h4
 have:=Nat.mul_le_mul_right size (show i+1<=rows.length by omega);rw[Nat.succ_mul]at this;exact⟨h3,hj,by omega⟩
theorem Cv {α:Type} {rows:List (List α)} {size k:Nat} (hs:∀r∈rows,r.length=size) (hk:k<rows.length*size):∃t,fo rows (k/size) (k%size)=some t:=by
 have ng:0<size:=by
  rcases Nat.eq_zero_or_pos size with h|h
  ·subst h;simp at hk
  ·exact h
 have h1:k/size<rows.length:=Nat.div_lt_of_lt_mul (by rw[Nat.mul_comm];exact hk);have h2:k%size<(rows[k/size]).length:=by rw[hs _ (List.getElem_mem h1)];exact Nat.mod_lt _ ng
 exact⟨_,Gy (List.getElem?_eq_getElem h1) (List.getElem?_eq_getElem h2)⟩
section
variable {P:Program} {C:eA} {K:Ctx} {β:Nat->Option bZ} {S:Place} {st:St} {a:Act} {w:World} {slot:Nat} {e:cR} {o:Oper}
theorem Ew {rows:List (List Tree)} {size cb co:Nat} (hs:∀r∈rows,r.length=size) {val:Nat->Nat->Value}
  (hv:∀i j t,fo rows i j=some t->w.cell? ⟨cb,co+(i*size+j),none⟩=some (val i j)/\dX S w t (val i j)) :
  ∃vs,(loadCells ⟨cb,co,none⟩ (rows.length*size)).run P w=.ok vs.toArray w/\Flat S w rows size vs:=by
 obtain⟨vs,h1,h2⟩:=nf (Q:=fun k v=>w.cell? ⟨cb,co+k,none⟩=some v/\∀i j t,k=i*size+j->fo rows i j=some t->dX S w t v) (rows.length*size) (fun k hk=>by
  obtain⟨t,ht⟩:=Cv hs hk;refine⟨val (k/size) (k%size),?_,fun i j t' yr mX=>?_⟩
  ·have:=(hv _ _ _ ht).1
   rwa[show k/size*size+k%size=k from Nat.div_add_mod' k size]at this
  ·obtain⟨_,hj,_⟩:=im hs mX
   have e1:k/size=i:=by rw[yr,Nat.mul_comm,Nat.mul_add_div (by omega),Nat.div_eq_of_lt hj,Nat.add_zero]
   have e2:k%size=j:=by rw[yr,Nat.mul_comm,Nat.mul_add_mod,Nat.mod_eq_of_lt hj]
   rw[e1,e2];exact(hv _ _ _ mX).2)
 have:=run_loadCells_list (P:=P) w ⟨cb,co,none⟩ vs (fun j v hj=>by rw[IE];exact(h2 j v hj).1);rw[h1]at this;refine⟨vs,this,h1,fun i j t ht=>?_⟩;obtain⟨_,_,bJ⟩:=im hs ht;refine⟨vs[i*size+j]'(by omega),List.getElem?_eq_getElem _,(h2 _ _ (List.getElem?_eq_getElem _)).2 i j t rfl ht⟩
theorem Cw {l:List UInt8} {i j:Nat} {t:Tree} (h:fo (gE l) i j=some t):j=0/\∃b,l[i]?=some b/\t=.v (.int .u8 b.toNat):=by
 obtain⟨row,h1,h2,_,_⟩:=jd h;unfold gE at h1;rw[List.getElem?_map]at h1;obtain⟨b,hb,rfl⟩:=Option.map_eq_some_iff.1 h1
 match j with
 | 0=>simp at h2;exact⟨rfl,b,hb,h2.symm⟩
 | j+1=>simp at h2
theorem dX.OQ {rows:List (List Tree)} {cb co ah Ve off len cap:Nat} {base:Option Addr} (h:dX S w (.aa false rows) (.slice (some ⟨cb,co,none⟩) rows.length Ve)) (hr:∀r∈rows,r.length=ah)
  (hle:off+len<=rows.length) (h1:len<=cap) (h2:cap<2^63) (h3:0<cap->base=some ⟨cb,co+off*ah,none⟩):dX S w (.aa false ((rows.drop off).take len)) (.slice base len cap):=by
 have hl:((rows.drop off).take len).length=len:=by rw[List.length_take,List.length_drop];omega
 have:Value.slice base len cap=.slice base ((rows.drop off).take len).length cap:=by rw[hl]
 rw[this];generalize hv:Value.slice (some ⟨cb,co,none⟩) rows.length Ve=v at h;cases h with|aa _ _ ab1 cb' co' OR aes val e1 e2 e3 e4 e5 e5' e6 e7 e8=>
 cases hv;refine .aa false _ base cb (co+off*ah) ah cap (fun i j=>val (off+i) j) (by omega) h2 (by omega) (by simp) (fun dh=>h3 ?_) (fun hb=>?_) (fun r hm=>hr r (List.mem_of_mem_drop (List.mem_of_mem_take hm))) (fun i j t ht=>?_) (fun i j t ht=>?_)
 ·have:((rows.drop off).take len).length≠0:=fun e=>dh (List.length_eq_zero_iff.1 e)
  omega
 ·rcases Nat.eq_zero_or_pos cap with h|h
  ·exact h
  ·rw[h3 h]at hb;cases hb
 ·have mX:=(gN ht).2
  have G6:∃r,r∈rows:=by
   obtain⟨row,f1,_⟩:=jd mX;exact⟨row,List.mem_of_getElem? f1⟩
  obtain⟨r,hm⟩:=G6;have e:=e5 (List.ne_nil_of_mem hm);cases e;have hs:OR=ah:=by rw[<-e6 r hm,hr r hm]
  subst hs;obtain⟨a,b⟩:=e7 _ _ _ mX;rw[Nat.add_mul,<-Nat.add_assoc]at a b;exact⟨a,b⟩
 ·exact e8 _ _ _ (gN ht).2
theorem rb {cp:Bool} {rows:List (List Tree)} {v:Value} (hx:dX S w (.aa cp rows) v) {size:Nat} (hs:∀r∈rows,r.length=size) :
  (Builtin.lenOf v).run P w=.ok rows.length w/\∀n,n<=rows.length->∃vs,(Builtin.firstCells size n v).run P w=.ok vs.toArray w/\Flat S w (rows.take n) size vs:=by
 cases hx with|aa _ _ base cb co ah cap val h1 h2 h3 h4 h5 QI h6 h7 h8=>
 refine⟨by simp[Builtin.lenOf],fun n hn=>?_⟩;rcases Nat.eq_zero_or_pos n with rfl|ng
 ·refine⟨[],?_,by simp[Flat,fo]⟩
  cases base<;>simp[Builtin.firstCells,loadCells,loadCellsFrom]
 ·have dh:rows≠[]:=by rintro rfl;simp at hn;omega
  have dR:ah=size:=by
   obtain⟨r0,OS⟩:=List.exists_mem_of_ne_nil _ dh;rw[<-h6 r0 OS,hs r0 OS]
  rw[h5 dh];subst dR;have hl:(rows.take n).length=n:=by rw[List.length_take];omega
  obtain⟨vs,e1,e2⟩:=Ew (P:=P) (S:=S) (w:=w) (rows:=rows.take n) (size:=ah) (cb:=cb) (co:=co) (val:=val) (fun r hr=>hs r (List.mem_of_mem_take hr)) (fun i j t ht=>by
   have mX:fo rows i j=some t:=by
    have:=(gN (l:=0) (by simpa using ht)).2;simpa using this
   exact⟨by rw[<-Nat.add_assoc];exact(h7 i j t mX).2,h8 i j t mX⟩)
  rw[hl]at e1;exact⟨vs,by simpa[Builtin.firstCells]using e1,e2⟩
theorem iq (h:Sat K β S st a w) {x:AV} {v:Value} (hx:aI β S w x v) {rows:List (List Tree)} {rd:List Nat} (hr:rowsOf (look st.heap) x=some (rows,rd)) {size:Nat} (hs:∀r∈rows,r.length=size) :
  (Builtin.lenOf v).run P w=.ok rows.length w/\∀n,n<=rows.length->∃vs,(Builtin.firstCells size n v).run P w=.ok vs.toArray w/\Flat S w (rows.take n) size vs:=by
 unfold rowsOf at hr;split at hr
 ·cases hr
  cases hx with|c hx=>
  cases hx with|t hx=>exact rb hx hs
 ·rename_i b off len cp
  split at hr
  ·rename_i sz ph g fz hb
   split at hr
   ·rename_i hle
    cases hr;cases hx with|c hx=>
    cases hx with|sl R base cap hR h1 h2 h3 h4 h5=>
    obtain⟨R',h6,h7,_⟩:=h.ao b _ hb;rw[hR]at h6;cases h6;have XN:((ph.drop off).take len).length=len:=by rw[List.length_take,List.length_drop];omega
    refine⟨by simp[Builtin.lenOf];omega,fun n hn=>?_⟩;rw[XN]at hn;rcases Nat.eq_zero_or_pos n with rfl|ng
    ·refine⟨[],?_,by simp[Flat,fo]⟩
     cases base<;>simp[Builtin.firstCells,loadCells,loadCellsFrom]
    ·have dR:R.ah=size:=by
      have dh:((ph.drop off).take len)≠[]:=by rw[ne_eq,<-List.length_eq_zero_iff,XN];omega
      obtain⟨r0,OS⟩:=List.exists_mem_of_ne_nil _ dh;rw[<-h7.2.1 r0 (ra OS),hs r0 OS]
     rw[h5 (by omega)];have hl:(((ph.drop off).take len).take n).length=n:=by rw[List.length_take,XN];omega
     have hex:∃val:Nat->Nat->Value,∀i j t,fo (((ph.drop off).take len).take n) i j=some t->w.cell? ⟨R.cb,R.co+off*R.ah+(i*size+j),none⟩=some (val i j)/\dX S w t (val i j):=by
      have:∀i j,∃v,∀t,fo (((ph.drop off).take len).take n) i j=some t->w.cell? ⟨R.cb,R.co+off*R.ah+(i*size+j),none⟩=some v/\dX S w t v:=by
       intro i j;cases ht:fo (((ph.drop off).take len).take n) i j with
       | none=>exact⟨undef,by simp⟩
       | some t=>
        have Vf:fo ph (off+i) j=some t:=by
         have:=(gN (l:=0) (by simpa using ht)).2;exact(gN (by simpa using this)).2
        obtain⟨v,a1,a2⟩:=h7.2.2.2.2.2.2.1 _ _ _ Vf;refine⟨v,fun t' mX=>?_⟩;cases mX;rw[dR,Nat.add_mul,<-Nat.add_assoc]at a1;rw[dR,<-Nat.add_assoc];exact⟨a1,a2⟩
      exact⟨fun i j=>(this i j).choose,fun i j t ht=>(this i j).choose_spec t ht⟩
     obtain⟨val,pU⟩:=hex;obtain⟨vs,e1,e2⟩:=Ew (P:=P) (S:=S) (w:=w) (rows:=((ph.drop off).take len).take n) (size:=size) (cb:=R.cb) (co:=R.co+off*R.ah) (val:=val) (fun r hr=>hs r (List.mem_of_mem_take hr)) pU;rw[hl]at e1;exact⟨vs,by simpa[Builtin.firstCells]using e1,e2⟩
   ·cases hr
  ·rename_i sz ph hb
   split at hr
   ·rename_i hle
    cases hr;cases hx with|c hx=>
    cases hx with|sl R base cap hR h1 h2 h3 h4 h5=>
    obtain⟨R',h6,⟨k1,k2,k3,c0,k4⟩,_⟩:=h.ao b _ hb;rw[hR]at h6;cases h6;have XN:((ph.drop off).take len).length=len:=by rw[List.length_take,List.length_drop];omega
    exact rb (k4.OQ k2 hle h3 (by omega) h5) hs
   ·cases hr
  ·cases hr
 ·rename_i s
  cases hr;obtain⟨hx,_⟩:=hx.scalar;subst hx;have hl:(gE s.data.toList).length=s.size:=by simp[gE]
  refine⟨by simp[Builtin.lenOf,hl],fun n hn=>?_⟩;rw[hl]at hn;have hf:(Builtin.firstCells size n (.string s)).run P w=.ok ((s.data.toList.take n).map fun b=>Value.int .u8 b.toNat).toArray w:=by
   simp only[Builtin.firstCells,Sem.run_pure];congr 1;apply Array.ext';simp[ByteArray.data_extract,Array.toList_extract,List.extract]
  have dY:0<n->size=1:=by
   intro h0;cases hd:s.data.toList with
   | nil=>
    have h1:s.size=s.data.toList.length:=by simp
    rw[hd]at h1;have h2:s.size=0:=h1;omega
   | cons b l=>have:=hs [.v (.int .u8 b.toNat)] (by simp[gE,hd]);simpa using this.symm
  refine⟨_,hf,?_,fun i j t ht=>?_⟩
  ·rcases Nat.eq_zero_or_pos n with rfl|h0
   ·simp
   ·rw[dY h0];simp[gE]
  ·have mX:fo (gE s.data.toList) i j=some t:=by
    have:=(gN (l:=0) (by simpa using ht)).2;simpa using this
   have jc:i<n:=(gN (l:=0) (by simpa using ht)).1;obtain⟨rfl,b,hb,rfl⟩:=Cw mX;refine⟨.int .u8 b.toNat,?_,.v _ (GB _ _)⟩;rw[dY (by omega),List.getElem?_map,List.getElem?_take,if_pos (by omega)];simp[hb]
 ·rename_i base c
  cases hr;obtain⟨hx,_⟩:=hx.scalar;subst hx;refine⟨by simp[Builtin.lenOf],fun n hn=>?_⟩;obtain rfl:n=0:=by simpa using hn
  refine⟨[],?_,by simp[Flat,fo]⟩;cases base<;>simp[Builtin.firstCells,loadCells,loadCellsFrom]
 ·cases hr
theorem re:∀ {rows:List (List Tree)} {l:List UInt8},ez rows=some l->∃ns:List Int,rows=ns.map (fun n=>[Tree.v (.int .u8 n)])/\l=ns.map fun n=>UInt8.ofNat n.toNat
 | [],l,h=>by simp[ez]at h;subst h;exact⟨[],rfl,rfl⟩
 | r::rs,l,h=>by
  unfold ez at h;split at h
  ·rename_i heq;cases heq
  ·rename_i n rs' heq
   cases heq;obtain⟨l',h1,rfl⟩:=Option.map_eq_some_iff.1 h;obtain⟨ns,rfl,rfl⟩:=re h1;exact⟨n::ns,rfl,rfl⟩
  ·cases h
theorem foldl_push (ns:List Int):∀s:ByteArray,ns.foldl (fun r n=>r.push (UInt8.ofNat n.toNat)) s=⟨s.data++(ns.map fun n=>UInt8.ofNat n.toNat).toArray⟩:=by
 induction ns with
 | nil=>intro s;simp
 | cons n ns ih=>intro s;simp only[List.foldl_cons,ih];congr 1;apply Array.ext';simp[ByteArray.push]
theorem JN (hC:bC P C) (h:Sat K β S st a w) {src dst:TypeId} {x:Operand} (ho:o.op=.convert src dst x)
  (he:eK C (look st.heap) src dst (st.get x)=some e):fw P β S a w o e:=by
 have hx:=h.get x;unfold eK at he;split at he
 ·rename_i ts td uC htd
  have dQ:=jh (hC _ ts uC);have RV:=jh (hC _ td htd);split at he
  ·rename_i k1 k k2 n GF GG hg
   cases he;rw[hg]at hx;obtain⟨hx,_⟩:=hx.scalar;refine⟨rfl,.int k (k.wrap n),?_,aI.sU (GB _ _)⟩;simp[execOp,ho,convert,run_underlying (dQ.int GF),run_underlying (RV.int GG),hx,Result.andThen,Conv.intToInt]
  ·rename_i s GF GG hg
   cases he;rw[hg]at hx;obtain⟨hx,_⟩:=hx.scalar;refine⟨rfl,.string s,?_,aI.sU (pQ _)⟩;simp[execOp,ho,convert,run_underlying (dQ.string GF),run_underlying (RV.string GG),hx,Result.andThen]
  ·rename_i _ _ _ el GF GG
   split at he
   ·rename_i te rows rd dx hr
    have eI:=jh (hC _ te dx);split at he
    ·rename_i l JM hl OT
     cases he;obtain⟨ns,rfl,rfl⟩:=re hl;obtain⟨h1,h2⟩:=iq (P:=P) h hx hr (size:=1) (by intro r hr;simp at hr;obtain⟨n,_,rfl⟩:=hr;rfl);obtain⟨vs,h3,h4,h5⟩:=h2 ns.length (by simp);have Lp:vs=ns.map (Value.int .u8):=by
      apply List.ext_getElem?;intro i;rw[List.getElem?_map];rcases Nat.lt_or_ge i ns.length with hi|hi
      ·obtain⟨v,e1,e2⟩:=h5 i 0 (.v (.int .u8 ns[i])) (by simp[fo,hi])
       simp at e1;rw[e1,List.getElem?_eq_getElem hi];cases e2;rfl
      ·rw[List.getElem?_eq_none (by simp at h4;omega),List.getElem?_eq_none hi];rfl
     subst Lp;have RX:∃base len cap,a.eval x=.slice base len cap:=by
      generalize st.get x=sx at hx OT;generalize a.eval x=av at hx;unfold GY at OT;split at OT
      ·cases hx with|c hx=>cases hx with|t hx=>cases hx with|aa=>exact⟨_,_,_,rfl⟩
      ·cases hx with|c hx=>cases hx with|sl=>exact⟨_,_,_,rfl⟩
      ·cases OT
     obtain⟨base,len,cap,eL⟩:=RX;rw[eL]at h1 h3;simp[Builtin.lenOf]at h1;subst h1;refine⟨rfl,.string ⟨(ns.map fun n=>UInt8.ofNat n.toNat).toArray⟩,?_,aI.sU (pQ _)⟩;have di:(Conv.bytesToString (.slice base ns.length cap)).run P w=.ok (.string ⟨(ns.map fun n=>UInt8.ofNat n.toNat).toArray⟩) w:=by
      cases base with
      | none=>
       simp[Builtin.firstCells]at h3;have:ns=[]:=by simpa using h3
       subst this;simp[Conv.bytesToString];rfl
      | some ad=>
       simp only[Builtin.firstCells,Nat.mul_one]at h3;rw[run_bytesToString w ad ns.length cap ns h3,foldl_push];congr 2;simp
     simp only[execOp,ho,convert,run_underlying (dQ.slice GF),run_underlying (RV.string GG),eL,Sem.run_bind,Sem.run_pure,Result.andThen,run_underlying (eI.int JM),di]
    ·cases he
   ·cases he
  ·cases he
 ·cases he
end
end Go.Abs
end
