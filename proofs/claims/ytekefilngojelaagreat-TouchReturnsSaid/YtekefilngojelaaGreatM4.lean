/- A part of the proof. -/
import Derived.Laws.IdiomCopy
import Derived.Laws.BytesString
import Derived.Laws.Append
import Derived.Test.YtekefilngojelaaGreatM3
set_option maxHeartbeats 0
set_option maxRecDepth 100000
set_option linter.unusedVariables false
set_option linter.unusedSimpArgs false
set_option linter.unusedSectionVars false
section
namespace Go.Abs
def Flat (S:Place) (w:World) (rows:List (List Tree)) (size:Nat) (vs:List Value):Prop:=
 vs.length=rows.length*size/\∀(i j:Nat) (t:Tree),fg rows i j=some t->∃v,vs[i*size+j]?=some v/\dR S w t v
theorem g7 {α:Type} {rows:List (List α)} {size i j:Nat} {t:α} (hs:∀r∈rows,r.length=size) (h:fg rows i j=some t):i<rows.length/\j<size/\i*size+j<rows.length*size:=by
 obtain⟨row,h1,h2,h3,h4⟩:=iS h;have hj:j<size:=by rw[<-hs row (List.mem_of_getElem? h1)];exact h4
 have:=Nat.mul_le_mul_right size (show i+1<=rows.length by omega);rw[Nat.succ_mul]at this;exact⟨h3,hj,by omega⟩
theorem Cw {α:Type} {rows:List (List α)} {size k:Nat} (hs:∀r∈rows,r.length=size) (hk:k<rows.length*size):∃t,fg rows (k/size) (k%size)=some t:=by
 have mT:0<size:=by
  rcases Nat.eq_zero_or_pos size with h|h
  ·subst h;simp at hk
  ·exact h
 have h1:k/size<rows.length:=Nat.div_lt_of_lt_mul (by rw[Nat.mul_comm];exact hk);have h2:k%size<(rows[k/size]).length:=by rw[hs _ (List.getElem_mem h1)];exact Nat.mod_lt _ mT
 exact⟨_,GM (List.getElem?_eq_getElem h1) (List.getElem?_eq_getElem h2)⟩
section
variable {P:Program} {C:eh} {K:Ctx} {β:Nat->Option bR} {S:Place} {st:St} {a:Act} {w:World} {slot:Nat} {e:bW} {o:Oper}
theorem EG {rows:List (List Tree)} {size cb co:Nat} (hs:∀r∈rows,r.length=size) {val:Nat->Nat->Value}
  (hv:∀i j t,fg rows i j=some t->w.cell? ⟨cb,co+(i*size+j),none⟩=some (val i j)/\dR S w t (val i j)) :
  ∃vs,(loadCells ⟨cb,co,none⟩ (rows.length*size)).run P w=.ok vs.toArray w/\Flat S w rows size vs:=by
 obtain⟨vs,h1,h2⟩:=mS (Q:=fun k v=>w.cell? ⟨cb,co+k,none⟩=some v/\∀i j t,k=i*size+j->fg rows i j=some t->dR S w t v) (rows.length*size) (fun k hk=>by
  obtain⟨t,ht⟩:=Cw hs hk;refine⟨val (k/size) (k%size),?_,fun i j t' yu mM=>?_⟩
  ·have:=(hv _ _ _ ht).1
   rwa[show k/size*size+k%size=k from Nat.div_add_mod' k size]at this
  ·obtain⟨_,hj,_⟩:=g7 hs mM
   have e1:k/size=i:=by rw[yu,Nat.mul_comm,Nat.mul_add_div (by omega),Nat.div_eq_of_lt hj,Nat.add_zero]
   have e2:k%size=j:=by rw[yu,Nat.mul_comm,Nat.mul_add_mod,Nat.mod_eq_of_lt hj]
   rw[e1,e2];exact(hv _ _ _ mM).2)
 have:=run_loadCells_list (P:=P) w ⟨cb,co,none⟩ vs (fun j v hj=>by rw[I0];exact(h2 j v hj).1);rw[h1]at this;refine⟨vs,this,h1,fun i j t ht=>?_⟩;obtain⟨_,_,bG⟩:=g7 hs ht;refine⟨vs[i*size+j]'(by omega),List.getElem?_eq_getElem _,(h2 _ _ (List.getElem?_eq_getElem _)).2 i j t rfl ht⟩
theorem Cx {l:List UInt8} {i j:Nat} {t:Tree} (h:fg (gj l) i j=some t):j=0/\∃b,l[i]?=some b/\t=.v (.int .u8 b.toNat):=by
 obtain⟨row,h1,h2,_,_⟩:=iS h;unfold gj at h1;rw[List.getElem?_map]at h1;obtain⟨b,hb,rfl⟩:=Option.map_eq_some_iff.1 h1
 match j with
 | 0=>simp at h2;exact⟨rfl,b,hb,h2.symm⟩
 | j+1=>simp at h2
theorem dR.Pc {rows:List (List Tree)} {cb co ai Vy off len cap:Nat} {base:Option Addr} (h:dR S w (.aa false rows) (.slice (some ⟨cb,co,none⟩) rows.length Vy)) (hr:∀r∈rows,r.length=ai)
  (hle:off+len<=rows.length) (h1:len<=cap) (h2:cap<2^63) (h3:0<cap->base=some ⟨cb,co+off*ai,none⟩):dR S w (.aa false ((rows.drop off).take len)) (.slice base len cap):=by
 have hl:((rows.drop off).take len).length=len:=by rw[List.length_take,List.length_drop];omega
 have:Value.slice base len cap=.slice base ((rows.drop off).take len).length cap:=by rw[hl]
 rw[this];generalize hv:Value.slice (some ⟨cb,co,none⟩) rows.length Vy=v at h;cases h with|aa _ _ ado cb' co' Pd afU val e1 e2 e3 e4 e5 e5' e6 e7 e8=>
 cases hv;refine .aa false _ base cb (co+off*ai) ai cap (fun i j=>val (off+i) j) (by omega) h2 (by omega) (by simp) (fun cY=>h3 ?_) (fun hb=>?_) (fun r hm=>hr r (List.mem_of_mem_drop (List.mem_of_mem_take hm))) (fun i j t ht=>?_) (fun i j t ht=>?_)
 ·have:((rows.drop off).take len).length≠0:=fun e=>cY (List.length_eq_zero_iff.1 e)
  omega
 ·rcases Nat.eq_zero_or_pos cap with h|h
  ·exact h
  ·rw[h3 h]at hb;cases hb
 ·have mM:=(gF ht).2
  have Hg:∃r,r∈rows:=by
   obtain⟨row,f1,_⟩:=iS mM;exact⟨row,List.mem_of_getElem? f1⟩
  obtain⟨r,hm⟩:=Hg;have e:=e5 (List.ne_nil_of_mem hm);cases e;have hs:Pd=ai:=by rw[<-e6 r hm,hr r hm]
  subst hs;obtain⟨a,b⟩:=e7 _ _ _ mM;rw[Nat.add_mul,<-Nat.add_assoc]at a b;exact⟨a,b⟩
 ·exact e8 _ _ _ (gF ht).2
theorem qV {cp:Bool} {rows:List (List Tree)} {v:Value} (hx:dR S w (.aa cp rows) v) {size:Nat} (hs:∀r∈rows,r.length=size) :
  (Builtin.lenOf v).run P w=.ok rows.length w/\∀n,n<=rows.length->∃vs,(Builtin.firstCells size n v).run P w=.ok vs.toArray w/\Flat S w (rows.take n) size vs:=by
 cases hx with|aa _ _ base cb co ai cap val h1 h2 h3 h4 h5 Q4 h6 h7 h8=>
 refine⟨by simp[Builtin.lenOf],fun n hn=>?_⟩;rcases Nat.eq_zero_or_pos n with rfl|mT
 ·refine⟨[],?_,by simp[Flat,fg]⟩
  cases base<;>simp[Builtin.firstCells,loadCells,loadCellsFrom]
 ·have cY:rows≠[]:=by rintro rfl;simp at hn;omega
  have dN:ai=size:=by
   obtain⟨r0,Pe⟩:=List.exists_mem_of_ne_nil _ cY;rw[<-h6 r0 Pe,hs r0 Pe]
  rw[h5 cY];subst dN;have hl:(rows.take n).length=n:=by rw[List.length_take];omega
  obtain⟨vs,e1,e2⟩:=EG (P:=P) (S:=S) (w:=w) (rows:=rows.take n) (size:=ai) (cb:=cb) (co:=co) (val:=val) (fun r hr=>hs r (List.mem_of_mem_take hr)) (fun i j t ht=>by
   have mM:fg rows i j=some t:=by
    have:=(gF (l:=0) (by simpa using ht)).2;simpa using this
   exact⟨by rw[<-Nat.add_assoc];exact(h7 i j t mM).2,h8 i j t mM⟩)
  rw[hl]at e1;exact⟨vs,by simpa[Builtin.firstCells]using e1,e2⟩
theorem g8 (h:Sat K β S st a w) {x:AV} {v:Value} (hx:aH β S w x v) {rows:List (List Tree)} {rd:List Nat} (hr:rowsOf (look st.heap) x=some (rows,rd)) {size:Nat} (hs:∀r∈rows,r.length=size) :
  (Builtin.lenOf v).run P w=.ok rows.length w/\∀n,n<=rows.length->∃vs,(Builtin.firstCells size n v).run P w=.ok vs.toArray w/\Flat S w (rows.take n) size vs:=by
 unfold rowsOf at hr;split at hr
 ·cases hr
  cases hx with|c hx=>
  cases hx with|t hx=>exact qV hx hs
 ·rename_i b off len cp
  split at hr
  ·rename_i sz oX g fz hb
   split at hr
   ·rename_i hle
    cases hr;cases hx with|c hx=>
    cases hx with|sl R base cap hR h1 h2 h3 h4 h5=>
    obtain⟨R',h6,h7,_⟩:=h.au b _ hb;rw[hR]at h6;cases h6;have Yy:((oX.drop off).take len).length=len:=by rw[List.length_take,List.length_drop];omega
    refine⟨by simp[Builtin.lenOf];omega,fun n hn=>?_⟩;rw[Yy]at hn;rcases Nat.eq_zero_or_pos n with rfl|mT
    ·refine⟨[],?_,by simp[Flat,fg]⟩
     cases base<;>simp[Builtin.firstCells,loadCells,loadCellsFrom]
    ·have dN:R.ai=size:=by
      have cY:((oX.drop off).take len)≠[]:=by rw[ne_eq,<-List.length_eq_zero_iff,Yy];omega
      obtain⟨r0,Pe⟩:=List.exists_mem_of_ne_nil _ cY;rw[<-h7.2.1 r0 (qU Pe),hs r0 Pe]
     rw[h5 (by omega)];have hl:(((oX.drop off).take len).take n).length=n:=by rw[List.length_take,Yy];omega
     have hex:∃val:Nat->Nat->Value,∀i j t,fg (((oX.drop off).take len).take n) i j=some t->w.cell? ⟨R.cb,R.co+off*R.ai+(i*size+j),none⟩=some (val i j)/\dR S w t (val i j):=by
      have:∀i j,∃v,∀t,fg (((oX.drop off).take len).take n) i j=some t->w.cell? ⟨R.cb,R.co+off*R.ai+(i*size+j),none⟩=some v/\dR S w t v:=by
       intro i j;cases ht:fg (((oX.drop off).take len).take n) i j with
       | none=>exact⟨undef,by simp⟩
       | some t=>
        have Vz:fg oX (off+i) j=some t:=by
         have:=(gF (l:=0) (by simpa using ht)).2;exact(gF (by simpa using this)).2
        obtain⟨v,a1,a2⟩:=h7.2.2.2.2.2.2.1 _ _ _ Vz;refine⟨v,fun t' mM=>?_⟩;cases mM;rw[dN,Nat.add_mul,<-Nat.add_assoc]at a1;rw[dN,<-Nat.add_assoc];exact⟨a1,a2⟩
      exact⟨fun i j=>(this i j).choose,fun i j t ht=>(this i j).choose_spec t ht⟩
     obtain⟨val,pK⟩:=hex;obtain⟨vs,e1,e2⟩:=EG (P:=P) (S:=S) (w:=w) (rows:=((oX.drop off).take len).take n) (size:=size) (cb:=R.cb) (co:=R.co+off*R.ai) (val:=val) (fun r hr=>hs r (List.mem_of_mem_take hr)) pK;rw[hl]at e1;exact⟨vs,by simpa[Builtin.firstCells]using e1,e2⟩
   ·cases hr
  ·rename_i sz oX hb
   split at hr
   ·rename_i hle
    cases hr;cases hx with|c hx=>
    cases hx with|sl R base cap hR h1 h2 h3 h4 h5=>
    obtain⟨R',h6,⟨k1,k2,k3,c0,k4⟩,_⟩:=h.au b _ hb;rw[hR]at h6;cases h6;have Yy:((oX.drop off).take len).length=len:=by rw[List.length_take,List.length_drop];omega
    exact qV (k4.Pc k2 hle h3 (by omega) h5) hs
   ·cases hr
  ·cases hr
 ·rename_i s
  cases hr;obtain⟨hx,_⟩:=hx.scalar;subst hx;have hl:(gj s.data.toList).length=s.size:=by simp[gj]
  refine⟨by simp[Builtin.lenOf,hl],fun n hn=>?_⟩;rw[hl]at hn;have hf:(Builtin.firstCells size n (.string s)).run P w=.ok ((s.data.toList.take n).map fun b=>Value.int .u8 b.toNat).toArray w:=by
   simp only[Builtin.firstCells,Sem.run_pure];congr 1;apply Array.ext';simp[ByteArray.data_extract,Array.toList_extract,List.extract]
  have dS:0<n->size=1:=by
   intro h0;cases hd:s.data.toList with
   | nil=>
    have h1:s.size=s.data.toList.length:=by simp
    rw[hd]at h1;have h2:s.size=0:=h1;omega
   | cons b l=>have:=hs [.v (.int .u8 b.toNat)] (by simp[gj,hd]);simpa using this.symm
  refine⟨_,hf,?_,fun i j t ht=>?_⟩
  ·rcases Nat.eq_zero_or_pos n with rfl|h0
   ·simp
   ·rw[dS h0];simp[gj]
  ·have mM:fg (gj s.data.toList) i j=some t:=by
    have:=(gF (l:=0) (by simpa using ht)).2;simpa using this
   have iR:i<n:=(gF (l:=0) (by simpa using ht)).1;obtain⟨rfl,b,hb,rfl⟩:=Cx mM;refine⟨.int .u8 b.toNat,?_,.v _ (GP _ _)⟩;rw[dS (by omega),List.getElem?_map,List.getElem?_take,if_pos (by omega)];simp[hb]
 ·rename_i base c
  cases hr;obtain⟨hx,_⟩:=hx.scalar;subst hx;refine⟨by simp[Builtin.lenOf],fun n hn=>?_⟩;obtain rfl:n=0:=by simpa using hn
  refine⟨[],?_,by simp[Flat,fg]⟩;cases base<;>simp[Builtin.firstCells,loadCells,loadCellsFrom]
 ·cases hr
theorem qW:∀ {rows:List (List Tree)} {l:List UInt8},dZ rows=some l->∃ns:List Int,rows=ns.map (fun n=>[Tree.v (.int .u8 n)])/\l=ns.map fun n=>UInt8.ofNat n.toNat
 | [],l,h=>by simp[dZ]at h;subst h;exact⟨[],rfl,rfl⟩
 | r::rs,l,h=>by
  unfold dZ at h;split at h
  ·rename_i heq;cases heq
  ·rename_i n rs' heq
   cases heq;obtain⟨l',h1,rfl⟩:=Option.map_eq_some_iff.1 h;obtain⟨ns,rfl,rfl⟩:=qW h1;exact⟨n::ns,rfl,rfl⟩
  ·cases h
theorem foldl_push (ns:List Int):∀s:ByteArray,ns.foldl (fun r n=>r.push (UInt8.ofNat n.toNat)) s=⟨s.data++(ns.map fun n=>UInt8.ofNat n.toNat).toArray⟩:=by
 induction ns with
 | nil=>intro s;simp
 | cons n ns ih=>intro s;simp only[List.foldl_cons,ih];congr 1;apply Array.ext';simp[ByteArray.push]
theorem Ka (hC:bq P C) (h:Sat K β S st a w) {src dst:TypeId} {x:Operand} (ho:o.op=.convert src dst x)
  (he:eH C (look st.heap) src dst (st.get x)=some e):fk P β S a w o e:=by
 have hx:=h.get x;unfold eH at he;split at he
 ·rename_i ts td uv htd
  have dM:=iV (hC _ ts uv);have Sy:=iV (hC _ td htd);split at he
  ·rename_i k1 k k2 n GS GU hg
   cases he;rw[hg]at hx;obtain⟨hx,_⟩:=hx.scalar;refine⟨rfl,.int k (k.wrap n),?_,aH.sO (GP _ _)⟩;simp[execOp,ho,convert,run_underlying (dM.int GS),run_underlying (Sy.int GU),hx,Result.andThen,Conv.intToInt]
  ·rename_i s GS GU hg
   cases he;rw[hg]at hx;obtain⟨hx,_⟩:=hx.scalar;refine⟨rfl,.string s,?_,aH.sO (pG _)⟩;simp[execOp,ho,convert,run_underlying (dM.string GS),run_underlying (Sy.string GU),hx,Result.andThen]
  ·rename_i _ _ _ el GS GU
   split at he
   ·rename_i te rows rd du hr
    have eE:=iV (hC _ te du);split at he
    ·rename_i l J9 hl Pf
     cases he;obtain⟨ns,rfl,rfl⟩:=qW hl;obtain⟨h1,h2⟩:=g8 (P:=P) h hx hr (size:=1) (by intro r hr;simp at hr;obtain⟨n,_,rfl⟩:=hr;rfl);obtain⟨vs,h3,h4,h5⟩:=h2 ns.length (by simp);have LK:vs=ns.map (Value.int .u8):=by
      apply List.ext_getElem?;intro i;rw[List.getElem?_map];rcases Nat.lt_or_ge i ns.length with hi|hi
      ·obtain⟨v,e1,e2⟩:=h5 i 0 (.v (.int .u8 ns[i])) (by simp[fg,hi])
       simp at e1;rw[e1,List.getElem?_eq_getElem hi];cases e2;rfl
      ·rw[List.getElem?_eq_none (by simp at h4;omega),List.getElem?_eq_none hi];rfl
     subst LK;have Sz:∃base len cap,a.eval x=.slice base len cap:=by
      generalize st.get x=sx at hx Pf;generalize a.eval x=av at hx;unfold Ha at Pf;split at Pf
      ·cases hx with|c hx=>cases hx with|t hx=>cases hx with|aa=>exact⟨_,_,_,rfl⟩
      ·cases hx with|c hx=>cases hx with|sl=>exact⟨_,_,_,rfl⟩
      ·cases Pf
     obtain⟨base,len,cap,eI⟩:=Sz;rw[eI]at h1 h3;simp[Builtin.lenOf]at h1;subst h1;refine⟨rfl,.string ⟨(ns.map fun n=>UInt8.ofNat n.toNat).toArray⟩,?_,aH.sO (pG _)⟩;have cZ:(Conv.bytesToString (.slice base ns.length cap)).run P w=.ok (.string ⟨(ns.map fun n=>UInt8.ofNat n.toNat).toArray⟩) w:=by
      cases base with
      | none=>
       simp[Builtin.firstCells]at h3;have:ns=[]:=by simpa using h3
       subst this;simp[Conv.bytesToString];rfl
      | some ad=>
       simp only[Builtin.firstCells,Nat.mul_one]at h3;rw[run_bytesToString w ad ns.length cap ns h3,foldl_push];congr 2;simp
     simp only[execOp,ho,convert,run_underlying (dM.slice GS),run_underlying (Sy.string GU),eI,Sem.run_bind,Sem.run_pure,Result.andThen,run_underlying (eE.int J9),cZ]
    ·cases he
   ·cases he
  ·cases he
 ·cases he
end
end Go.Abs
end
