/-
  A part of the proof: GabsMem1.
-/
import Derived.Test.YtjfmkcmepdedaaaGreatM3
import Derived.Laws.IdiomCopy
import Derived.Laws.BytesString
import Derived.Laws.Append
set_option maxHeartbeats 0
set_option maxRecDepth 100000
set_option linter.unusedVariables false
set_option linter.unusedSimpArgs false
set_option linter.unusedSectionVars false
section
namespace Go.Abs
def Flat (S:Place) (w:World) (rows:List (List Tree)) (size:Nat) (vs:List Value):Prop:=
 vs.length=rows.length*size/\∀ (i j:Nat) (t:Tree),at2 rows i j=some t->∃ v,vs[i*size+j]?=some v/\TRep S w t v
theorem at2_in {α:Type} {rows:List (List α)} {size i j:Nat} {t:α} (hs:∀ r ∈ rows,r.length=size) (h:at2 rows i j=some t):i < rows.length/\j < size/\i*size+j < rows.length*size:=by
 obtain ⟨row,h1,h2,h3,h4⟩:=at2_lt h
 have hj:j < size:=by rw [<- hs row (List.mem_of_getElem? h1)]; exact h4
 have:=Nat.mul_le_mul_right size (show i+1<=rows.length by omega)
 rw [Nat.succ_mul] at this
 exact ⟨h3,hj,by omega⟩
theorem at2_of {α:Type} {rows:List (List α)} {size k:Nat} (hs:∀ r ∈ rows,r.length=size) (hk:k < rows.length*size):∃ t,at2 rows (k / size) (k % size)=some t:=by
 have hpos:0 < size:=by
  rcases Nat.eq_zero_or_pos size with h | h
  ·subst h; simp at hk
  ·exact h
 have h1:k / size < rows.length:=Nat.div_lt_of_lt_mul (by rw [Nat.mul_comm]; exact hk)
 have h2:k % size < (rows[k / size]).length:=by rw [hs _ (List.getElem_mem h1)]; exact Nat.mod_lt _ hpos
 exact ⟨_,qas (List.getElem?_eq_getElem h1) (List.getElem?_eq_getElem h2)⟩
section
variable {P:Program} {C:Cfg} {K:Ctx} {β:Nat->Option Reg} {S:Place} {st:St} {a:Act} {w:World} {slot:Nat} {e:Eff} {o:Oper}
theorem run_rows {rows:List (List Tree)} {size cb co:Nat} (hs:∀ r ∈ rows,r.length=size) {val:Nat->Nat->Value}
  (hv:∀ i j t,at2 rows i j=some t->w.cell? ⟨cb,co+(i*size+j),none⟩=some (val i j)/\TRep S w t (val i j)) :
  ∃ vs,(loadCells ⟨cb,co,none⟩ (rows.length*size)).run P w=.ok vs.toArray w/\Flat S w rows size vs:=by
 obtain ⟨vs,h1,h2⟩:=exists_list (Q:=fun k v=>w.cell? ⟨cb,co+k,none⟩=some v/\∀ i j t,k=i*size+j->at2 rows i j=some t->TRep S w t v) (rows.length*size) (fun k hk=>by
  obtain ⟨t,ht⟩:=at2_of hs hk
  refine ⟨val (k / size) (k % size),?_,fun i j t' hk' ht'=>?_⟩
  ·have:=(hv _ _ _ ht).1
   rwa [show k / size*size+k % size=k from Nat.div_add_mod' k size] at this
  ·obtain ⟨_,hj,_⟩:=at2_in hs ht'
   have e1:k / size=i:=by rw [hk',Nat.mul_comm,Nat.mul_add_div (by omega),Nat.div_eq_of_lt hj,Nat.add_zero]
   have e2:k % size=j:=by rw [hk',Nat.mul_comm,Nat.mul_add_mod,Nat.mod_eq_of_lt hj]
   rw [e1,e2]
   exact (hv _ _ _ ht').2)
 have:=run_loadCells_list (P:=P) w ⟨cb,co,none⟩ vs (fun j v hj=>by rw [qbe]; exact (h2 j v hj).1)
 rw [h1] at this
 refine ⟨vs,this,h1,fun i j t ht=>?_⟩
 obtain ⟨_,_,hlt⟩:=at2_in hs ht
 refine ⟨vs[i*size+j]'(by omega),List.getElem?_eq_getElem _,(h2 _ _ (List.getElem?_eq_getElem _)).2 i j t rfl ht⟩
theorem bytesRows_at {l:List UInt8} {i j:Nat} {t:Tree} (h:at2 (bytesRows l) i j=some t):j=0/\∃ b,l[i]?=some b/\t=.v (.int .u8 b.toNat):=by
 obtain ⟨row,h1,h2,_,_⟩:=at2_lt h
 unfold bytesRows at h1
 rw [List.getElem?_map] at h1
 obtain ⟨b,hb,rfl⟩:=Option.map_eq_some_iff.1 h1
 match j with
 | 0=>simp at h2; exact ⟨rfl,b,hb,h2.symm⟩
 | j+1=>simp at h2
theorem TRep.cut_old {rows:List (List Tree)} {cb co stride cap0 off len cap:Nat} {base:Option Addr} (h:TRep S w (.lst false rows) (.slice (some ⟨cb,co,none⟩) rows.length cap0)) (hr:∀ r ∈ rows,r.length=stride)
  (hle:off+len<=rows.length) (h1:len<=cap) (h2:cap < 2 ^ 63) (h3:0 < cap->base=some ⟨cb,co+off*stride,none⟩):TRep S w (.lst false ((rows.drop off).take len)) (.slice base len cap):=by
 have hl:((rows.drop off).take len).length=len:=by rw [List.length_take,List.length_drop]; omega
 have:Value.slice base len cap=.slice base ((rows.drop off).take len).length cap:=by rw [hl]
 rw [this]
 generalize hv:Value.slice (some ⟨cb,co,none⟩) rows.length cap0=v at h
 cases h with | lst _ _ base' cb' co' stride' cap' val e1 e2 e3 e4 e5 e5' e6 e7 e8=>
 cases hv
 refine .lst false _ base cb (co+off*stride) stride cap (fun i j=>val (off+i) j) (by omega) h2 (by omega) (by simp) (fun hne=>h3 ?_) (fun hb=>?_) (fun r hm=>hr r (List.mem_of_mem_drop (List.mem_of_mem_take hm))) (fun i j t ht=>?_) (fun i j t ht=>?_)
 ·have:((rows.drop off).take len).length ≠ 0:=fun e=>hne (List.length_eq_zero_iff.1 e)
  omega
 ·rcases Nat.eq_zero_or_pos cap with h | h
  ·exact h
  ·rw [h3 h] at hb; cases hb
 ·have ht':=(at2_cut ht).2
  have hmem:∃ r,r ∈ rows:=by
   obtain ⟨row,f1,_⟩:=at2_lt ht'
   exact ⟨row,List.mem_of_getElem? f1⟩
  obtain ⟨r,hm⟩:=hmem
  have e:=e5 (List.ne_nil_of_mem hm)
  cases e
  have hs:stride'=stride:=by rw [<- e6 r hm,hr r hm]
  subst hs
  obtain ⟨a,b⟩:=e7 _ _ _ ht'
  rw [Nat.add_mul,<- Nat.add_assoc] at a b
  exact ⟨a,b⟩
 ·exact e8 _ _ _ (at2_cut ht).2
theorem rowsTree_run {cp:Bool} {rows:List (List Tree)} {v:Value} (hx:TRep S w (.lst cp rows) v) {size:Nat} (hs:∀ r ∈ rows,r.length=size) :
  (Builtin.lenOf v).run P w=.ok rows.length w/\∀ n,n<=rows.length->∃ vs,(Builtin.firstCells size n v).run P w=.ok vs.toArray w/\Flat S w (rows.take n) size vs:=by
 cases hx with | lst _ _ base cb co stride cap val h1 h2 h3 h4 h5 h5' h6 h7 h8=>
 refine ⟨by simp [Builtin.lenOf],fun n hn=>?_⟩
 rcases Nat.eq_zero_or_pos n with rfl | hpos
 ·refine ⟨[],?_,by simp [Flat,at2]⟩
  cases base <;> simp [Builtin.firstCells,loadCells,loadCellsFrom]
 ·have hne:rows ≠ []:=by rintro rfl; simp at hn; omega
  have hst:stride=size:=by
   obtain ⟨r0,hr0⟩:=List.exists_mem_of_ne_nil _ hne
   rw [<- h6 r0 hr0,hs r0 hr0]
  rw [h5 hne]
  subst hst
  have hl:(rows.take n).length=n:=by rw [List.length_take]; omega
  obtain ⟨vs,e1,e2⟩:=run_rows (P:=P) (S:=S) (w:=w) (rows:=rows.take n) (size:=stride) (cb:=cb) (co:=co) (val:=val) (fun r hr=>hs r (List.mem_of_mem_take hr)) (fun i j t ht=>by
   have ht':at2 rows i j=some t:=by
    have:=(at2_cut (l:=0) (by simpa using ht)).2
    simpa using this
   exact ⟨by rw [<- Nat.add_assoc]; exact (h7 i j t ht').2,h8 i j t ht'⟩)
  rw [hl] at e1
  exact ⟨vs,by simpa [Builtin.firstCells] using e1,e2⟩
theorem rowsOf_run (h : Sat K β S st a w) {x : AV} {v : Value} (hx : VRep β S w x v) {rows : List (List Tree)} {rd : List Nat} (hr : rowsOf (look st.heap) x = some (rows, rd)) {size : Nat} (hs : ∀ r ∈ rows, r.length = size) :
    (Builtin.lenOf v).run P w = .ok rows.length w /\ ∀ n, n <= rows.length -> ∃ vs, (Builtin.firstCells size n v).run P w = .ok vs.toArray w /\ Flat S w (rows.take n) size vs := by
  unfold rowsOf at hr
  split at hr
  · cases hr
    cases hx with | c hx =>
    cases hx with | t hx => exact rowsTree_run hx hs
  · rename_i b off len cp
    split at hr
    · rename_i sz brows g fz hb
      split at hr
      · rename_i hle
        cases hr
        cases hx with | c hx =>
        cases hx with | sl R base cap hR h1 h2 h3 h4 h5 =>
        obtain ⟨R', h6, h7, _⟩ := h.blk b _ hb
        rw [hR] at h6; cases h6
        have hl0 : ((brows.drop off).take len).length = len := by rw [List.length_take, List.length_drop]; omega
        refine ⟨by simp [Builtin.lenOf]; omega, fun n hn => ?_⟩
        rw [hl0] at hn
        rcases Nat.eq_zero_or_pos n with rfl | hpos
        · refine ⟨[], ?_, by simp [Flat, at2]⟩
          cases base <;> simp [Builtin.firstCells, loadCells, loadCellsFrom]
        · have hst : R.stride = size := by
            have hne : ((brows.drop off).take len) ≠ [] := by rw [ne_eq, <- List.length_eq_zero_iff, hl0]; omega
            obtain ⟨r0, hr0⟩ := List.exists_mem_of_ne_nil _ hne
            rw [<- h7.2.1 r0 (mem_cut hr0), hs r0 hr0]
          rw [h5 (by omega)]
          have hl : (((brows.drop off).take len).take n).length = n := by rw [List.length_take, hl0]; omega
          have hex : ∃ val : Nat -> Nat -> Value, ∀ i j t, at2 (((brows.drop off).take len).take n) i j = some t -> w.cell? ⟨R.cb, R.co + off * R.stride + (i * size + j), none⟩ = some (val i j) /\ TRep S w t (val i j) := by
            have : ∀ i j, ∃ v, ∀ t, at2 (((brows.drop off).take len).take n) i j = some t -> w.cell? ⟨R.cb, R.co + off * R.stride + (i * size + j), none⟩ = some v /\ TRep S w t v := by
              intro i j
              cases ht : at2 (((brows.drop off).take len).take n) i j with
              | none => exact ⟨undef, by simp⟩
              | some t =>
                have ht2 : at2 brows (off + i) j = some t := by
                  have := (at2_cut (l := 0) (by simpa using ht)).2
                  exact (at2_cut (by simpa using this)).2
                obtain ⟨v, a1, a2⟩ := h7.2.2.2.2.2.2.1 _ _ _ ht2
                refine ⟨v, fun t' ht' => ?_⟩
                cases ht'
                rw [hst, Nat.add_mul, <- Nat.add_assoc] at a1
                rw [hst, <- Nat.add_assoc]
                exact ⟨a1, a2⟩
            exact ⟨fun i j => (this i j).choose, fun i j t ht => (this i j).choose_spec t ht⟩
          obtain ⟨val, hval⟩ := hex
          obtain ⟨vs, e1, e2⟩ := run_rows (P := P) (S := S) (w := w) (rows := ((brows.drop off).take len).take n) (size := size) (cb := R.cb) (co := R.co + off * R.stride) (val := val) (fun r hr => hs r (List.mem_of_mem_take hr)) hval
          rw [hl] at e1
          exact ⟨vs, by simpa [Builtin.firstCells] using e1, e2⟩
      · cases hr
    · rename_i sz brows hb
      split at hr
      · rename_i hle
        cases hr
        cases hx with | c hx =>
        cases hx with | sl R base cap hR h1 h2 h3 h4 h5 =>
        obtain ⟨R', h6, ⟨k1, k2, k3, c0, k4⟩, _⟩ := h.blk b _ hb
        rw [hR] at h6; cases h6
        have hl0 : ((brows.drop off).take len).length = len := by rw [List.length_take, List.length_drop]; omega
        exact rowsTree_run (k4.cut_old k2 hle h3 (by omega) h5) hs
      · cases hr
    · cases hr
  · rename_i s
    cases hr
    obtain ⟨hx, _⟩ := hx.scalar
    subst hx
    have hl : (bytesRows s.data.toList).length = s.size := by simp [bytesRows]
    refine ⟨by simp [Builtin.lenOf, hl], fun n hn => ?_⟩
    rw [hl] at hn
    have hf : (Builtin.firstCells size n (.string s)).run P w = .ok ((s.data.toList.take n).map fun b => Value.int .u8 b.toNat).toArray w := by
      simp only [Builtin.firstCells, Sem.run_pure]
      congr 1
      apply Array.ext'
      simp [ByteArray.data_extract, Array.toList_extract, List.extract]
    have hsz : 0 < n -> size = 1 := by
      intro h0
      cases hd : s.data.toList with
      | nil => have h1 : s.size = s.data.toList.length := by simp
               rw [hd] at h1; have h2 : s.size = 0 := h1; omega
      | cons b l => have := hs [.v (.int .u8 b.toNat)] (by simp [bytesRows, hd]); simpa using this.symm
    refine ⟨_, hf, ?_, fun i j t ht => ?_⟩
    · rcases Nat.eq_zero_or_pos n with rfl | h0
      · simp
      · rw [hsz h0]; simp [bytesRows]
    · have ht' : at2 (bytesRows s.data.toList) i j = some t := by
        have := (at2_cut (l := 0) (by simpa using ht)).2
        simpa using this
      have hin : i < n := (at2_cut (l := 0) (by simpa using ht)).1
      obtain ⟨rfl, b, hb, rfl⟩ := bytesRows_at ht'
      refine ⟨.int .u8 b.toNat, ?_, .v _ (qbk _ _)⟩
      rw [hsz (by omega), List.getElem?_map, List.getElem?_take, if_pos (by omega)]
      simp [hb]
  · rename_i base c
    cases hr
    obtain ⟨hx, _⟩ := hx.scalar
    subst hx
    refine ⟨by simp [Builtin.lenOf], fun n hn => ?_⟩
    obtain rfl : n = 0 := by simpa using hn
    refine ⟨[], ?_, by simp [Flat, at2]⟩
    cases base <;> simp [Builtin.firstCells, loadCells, loadCellsFrom]
  · cases hr
theorem rowsBytes_eq:∀ {rows:List (List Tree)} {l:List UInt8},rowsBytes rows=some l->∃ ns:List Int,rows=ns.map (fun n=>[Tree.v (.int .u8 n)])/\l=ns.map fun n=>UInt8.ofNat n.toNat
 | [],l,h=>by simp [rowsBytes] at h; subst h; exact ⟨[],rfl,rfl⟩
 | r :: rs,l,h=>by
  unfold rowsBytes at h
  split at h
  ·rename_i heq; cases heq
  ·rename_i n rs' heq
   cases heq
   obtain ⟨l',h1,rfl⟩:=Option.map_eq_some_iff.1 h
   obtain ⟨ns,rfl,rfl⟩:=rowsBytes_eq h1
   exact ⟨n :: ns,rfl,rfl⟩
  ·cases h
theorem foldl_push (ns:List Int):∀ s:ByteArray,ns.foldl (fun r n=>r.push (UInt8.ofNat n.toNat)) s=⟨s.data ++ (ns.map fun n=>UInt8.ofNat n.toNat).toArray⟩:=by
 induction ns with
 | nil=>intro s; simp
 | cons n ns ih=>intro s; simp only [List.foldl_cons,ih]; congr 1; apply Array.ext'; simp [ByteArray.push]
theorem q_convert (hC:CfgOk P C) (h:Sat K β S st a w) {src dst:TypeId} {x:Operand} (ho:o.op=.convert src dst x)
  (he:evConvert C (look st.heap) src dst (st.get x)=some e):Quiet P β S a w o e:=by
 have hx:=h.get x
 unfold evConvert at he
 split at he
 ·rename_i ts td hts htd
  have hty:=qah (hC _ ts hts)
  have hty':=qah (hC _ td htd)
  split at he
  ·rename_i k1 k k2 n hk1 hk2 hg
   cases he
   rw [hg] at hx
   obtain ⟨hx,_⟩:=hx.scalar
   refine ⟨rfl,.int k (k.wrap n),?_,VRep.of1 (qbk _ _)⟩
   simp [execOp,ho,convert,run_underlying (hty.int hk1),run_underlying (hty'.int hk2),hx,Result.andThen,Conv.intToInt]
  ·rename_i s hk1 hk2 hg
   cases he
   rw [hg] at hx
   obtain ⟨hx,_⟩:=hx.scalar
   refine ⟨rfl,.string s,?_,VRep.of1 (one_string _)⟩
   simp [execOp,ho,convert,run_underlying (hty.string hk1),run_underlying (hty'.string hk2),hx,Result.andThen]
  ·rename_i _ _ _ el hk1 hk2
   split at he
   ·rename_i te rows rd hte hr
    have htye:=qah (hC _ te hte)
    split at he
    ·rename_i l hke hl hsl0
     cases he
     obtain ⟨ns,rfl,rfl⟩:=rowsBytes_eq hl
     obtain ⟨h1,h2⟩:=rowsOf_run (P:=P) h hx hr (size:=1) (by intro r hr; simp at hr; obtain ⟨n,_,rfl⟩:=hr; rfl)
     obtain ⟨vs,h3,h4,h5⟩:=h2 ns.length (by simp)
     have hvs:vs=ns.map (Value.int .u8):=by
      apply List.ext_getElem?
      intro i
      rw [List.getElem?_map]
      rcases Nat.lt_or_ge i ns.length with hi | hi
      ·obtain ⟨v,e1,e2⟩:=h5 i 0 (.v (.int .u8 ns[i])) (by simp [at2,hi])
       simp at e1
       rw [e1,List.getElem?_eq_getElem hi]
       cases e2; rfl
      ·rw [List.getElem?_eq_none (by simp at h4; omega),List.getElem?_eq_none hi]; rfl
     subst hvs
     have hsl:∃ base len cap,a.eval x=.slice base len cap:=by
      generalize st.get x=sx at hx hsl0
      generalize a.eval x=av at hx
      unfold isSl at hsl0
      split at hsl0
      ·cases hx with | c hx=>cases hx with | t hx=>cases hx with | lst=>exact ⟨_,_,_,rfl⟩
      ·cases hx with | c hx=>cases hx with | sl=>exact ⟨_,_,_,rfl⟩
      ·cases hsl0
     obtain ⟨base,len,cap,hav⟩:=hsl
     rw [hav] at h1 h3
     simp [Builtin.lenOf] at h1
     subst h1
     refine ⟨rfl,.string ⟨(ns.map fun n=>UInt8.ofNat n.toNat).toArray⟩,?_,VRep.of1 (one_string _)⟩
     have hrun:(Conv.bytesToString (.slice base ns.length cap)).run P w=.ok (.string ⟨(ns.map fun n=>UInt8.ofNat n.toNat).toArray⟩) w:=by
      cases base with
      | none=>
       simp [Builtin.firstCells] at h3
       have:ns=[]:=by simpa using h3
       subst this
       simp [Conv.bytesToString]; rfl
      | some ad=>
       simp only [Builtin.firstCells,Nat.mul_one] at h3
       rw [run_bytesToString w ad ns.length cap ns h3,foldl_push]
       congr 2
       simp
     simp only [execOp,ho,convert,run_underlying (hty.slice hk1),run_underlying (hty'.string hk2),hav,Sem.run_bind,Sem.run_pure,Result.andThen,run_underlying (htye.int hke),hrun]
    ·cases he
   ·cases he
  ·cases he
 ·cases he
end
end Go.Abs
end
