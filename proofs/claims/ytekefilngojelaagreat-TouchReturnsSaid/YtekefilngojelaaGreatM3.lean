/- A part of the proof. -/
import Derived.Laws.Small
import Derived.Test.YtekefilngojelaaGreatM1
import Derived.Test.YtekefilngojelaaGreatM2
set_option maxHeartbeats 0
set_option maxRecDepth 100000
set_option linter.unusedVariables false
set_option linter.unusedSimpArgs false
set_option linter.unusedSectionVars false
section
namespace Go.Abs
section
variable {P:Program} {C:eh} {K:Ctx} {β:Nat->Option bR} {S:Place} {st:St} {a:Act} {w:World} {slot:Nat} {e:bW} {o:Oper}
theorem GP (k:IntKind) (n:Int):one (.int k n):=fun l=>by simp
theorem GQ (b:Bool):one (.bool b):=fun l=>by simp
theorem pG (b:ByteArray):one (.string b):=fun l=>by simp
theorem Mc {op : BinOp} {x y v : Value} (h : J2 op x y = some v) (t : TypeId) (u z : Operand) (P : Program) (w : World) :
    (do eqGuard op t u z x y;binOp op t x y : Sem Value).run P w = .ok v w /\ one v := by
  unfold J2 at h;split at h
  · rename_i k a k' b
    rw[eqGuard_at_int];split at h
    · split at h
      · cases h
      · rename_i hb;cases h
        refine⟨?_, GP _ _⟩;simp only[Sem.run_bind, Sem.run_pure, Result.andThen, binOp_shl, Op.shift, if_neg hb]
    · split at h
      · cases h
      · rename_i hb;cases h
        refine⟨?_, GP _ _⟩;simp only[Sem.run_bind, Sem.run_pure, Result.andThen, binOp_shr, Op.shift, if_neg hb]
    · split at h
      · rename_i hk
        subst hk;split at h
        all_goals first
          | (cases h
             refine⟨?_, by first|exact GP _ _|exact GQ _⟩;simp only[Sem.run_bind, Sem.run_pure, Result.andThen, binOp_add, binOp_sub, binOp_mul, binOp_and, binOp_or, binOp_xor, binOp_andNot, binOp_eql, binOp_neq, binOp_lss, binOp_leq, binOp_gtr, binOp_geq, Op.intArith, Op.intBits]
             done)
          | (split at h
             · cases h
             · rename_i hb;cases h
               refine⟨?_, GP _ _⟩;simp only[Sem.run_bind, Sem.run_pure, Result.andThen, binOp_quo, binOp_rem, Op.intDiv, if_neg hb])
          | (cases h;done)
      · cases h
  · rename_i a b
    rw[eqGuard_at_string];split at h
    · cases h;exact⟨by simp[binOp, Op.stringOp], GQ _⟩
    · cases h;exact⟨by simp[binOp, Op.stringOp], GQ _⟩
    · cases h
  · cases h
theorem O4 (hC:bq P C) {op:BinOp} {t t':TypeId} {x y:Operand} {A B:List Cell} (ho:o.op=.binOp op t x y t')
  (hx:aH β S w (.agg A) (a.eval x)) (hy:aH β S w (.agg B) (a.eval y)) (he:vB C op t (j8 A B) A.length B.length=some e):fk P β S a w o e:=by
 unfold vB at he;split at he
 ·rename_i ti bZ
  have dM:=iV (hC t ti bZ);split at he
  ·rename_i len el hk
   split at he
   ·rename_i te du
    have eE:=iV (hC _ te du);split at he
    ·rename_i k0 OD
     split at he
     ·rename_i hc
      obtain⟨iW,hn,hm⟩:=hc;obtain⟨r,hr,he⟩:=Option.bind_eq_some_iff.1 he;obtain⟨xs,He,So,hx3⟩:=hx.Cr;obtain⟨ys,Vu,hy2,hy3⟩:=hy.Cr;obtain⟨i,O5,Sp,_⟩:=eE.info;have wc:P.cellsOf el=1:=by unfold Program.cellsOf;rw[O5];simp[Sp,iW]
      have cZ:=wb eE (by rw[OD];rfl) (eE.int OD) So hy2 hx3 hy3 9998 A B 0 r (by simp) (by simp) hr;have OC:=run_equalIn_array (P:=P) w 9999 xs.toArray ys.toArray (dM.array hk) O5;rw[wc,List.range_eq_range',<-hn,cZ]at OC;have Eg:=run_eqGuard_agg (P:=P) w op t x y xs.toArray ys.toArray (dM.guard _ _ (dM.array hk));unfold um at he;split at he
      ·cases he
       refine⟨rfl,.bool r,?_,aH.sO (GQ _)⟩;simp only[execOp,ho,He,Vu,Sem.run_bind,Eg,Sem.run_pure,Result.andThen,run_eql_struct,OC]
      ·cases he
       refine⟨rfl,.bool (!r),?_,aH.sO (GQ _)⟩;simp only[execOp,ho,He,Vu,Sem.run_bind,Eg,Sem.run_pure,Result.andThen,run_neq_struct,OC]
      ·cases he
     ·cases he
    ·cases he
   ·cases he
  ·cases he
 ·cases he
theorem we:∀ {A:List Cell},G8 A=true->∀ {i:Nat},i<A.length->A[i]?=some (.t (.v (.bool false)))
 | [],_,i,hi=>by simp at hi
 | c::A,h,i,hi=>by
  unfold G8 at h;split at h
  ·rename_i heq;cases heq
  ·rename_i xs heq
   cases heq;cases i with
   | zero=>rfl
   | succ i=>exact we h (by simpa using hi)
  ·cases h
theorem wh {e:TypeId} {te:TI} (du:gV P e te) (ha:te.kind.agg=false) {A:List Cell} {vs:List Value} (hlen:vs.length=A.length)
  (hc:∀(j:Nat) (y:Cell),A[j]?=some y->∃v,vs[j]?=some v/\dq β S w y v) {i:Nat} (hi:A[i]?=some (.t (.v (.bool false)))) :
  (part e vs.toArray i).run P w=.ok (.bool false) w:=by
 have hg:dk te A i=some (.c (.t (.v (.bool false)))):=by unfold dk;rw[if_neg (by simp[ha]),hi];rfl
 obtain⟨v,h1,h2⟩:=qS (P:=P) (w:=w) du hg hlen hc;rw[h1,h2.scalar.1]
theorem oW {A B:List Cell} {xs ys:List Value} (hx:xs.length=A.length) (hy:ys.length=B.length)
  (cx:∀(j:Nat) (y:Cell),A[j]?=some y->∃v,xs[j]?=some v/\dq β S w y v) (cy:∀(j:Nat) (y:Cell),B[j]?=some y->∃v,ys[j]?=some v/\dq β S w y v)
  (hA:G8 A=true) (hB:G8 B=true) (d:Nat) :
  ∀fs:List Field,(∀f∈fs,f.offset<A.length/\f.offset<B.length/\P.underlying f.type=some .bool/\∃te,gV P f.type te/\te.kind.agg=false)->(Op.eqFields (d+1) xs.toArray ys.toArray fs).run P w=.ok true w
 | [],_=>by simp[Op.eqFields]
 | f::fs,h=>by
  obtain⟨h1,h2,h3,te,h4,h5⟩:=h f List.mem_cons_self;have ih:=oW hx hy cx cy hA hB d fs fun g hg=>h g (List.mem_cons_of_mem _ hg)
  unfold Op.eqFields;split
  ·simp only[Sem.run_bind,wh h4 h5 hx cx (we hA h1),wh h4 h5 hy cy (we hB h2),Result.andThen_ok,run_equalIn_bool' w d f.type false false h3]
   simpa using ih
  ·exact ih
theorem Sr (hC:bq P C) {op:BinOp} {t t':TypeId} {x y:Operand} {A B:List Cell} (ho:o.op=.binOp op t x y t')
  (hx:aH β S w (.agg A) (a.eval x)) (hy:aH β S w (.agg B) (a.eval y)) (he:Co C op t A B=some e):fk P β S a w o e:=by
 unfold Co at he;split at he
 ·rename_i ti bZ
  have dM:=iV (hC t ti bZ);split at he
  ·rename_i fs hk
   split at he
   ·rename_i hc
    simp only[Bool.and_eq_true,List.all_eq_true,decide_eq_true_eq]at hc;obtain⟨⟨⟨hA,hB⟩,cY⟩,GN⟩:=hc;obtain⟨xs,He,So,hx3⟩:=hx.Cr;obtain⟨ys,Vu,hy2,hy3⟩:=hy.Cr;obtain⟨fields,hu,Md⟩:=dM.struct hk;have jr:∀f∈fields.toList,f.offset<A.length/\f.offset<B.length/\P.underlying f.type=some .bool/\∃te,gV P f.type te/\te.kind.agg=false:=fun f hf=>by
     have hm:(f.offset,f.type)∈fs:=by rw[<-Md];exact List.mem_map.2 ⟨f,hf,rfl⟩
     obtain⟨⟨g1,g2⟩,g3⟩:=GN _ hm;refine⟨g1,g2,?_⟩;split at g3
     ·rename_i te du
      have eE:=iV (hC _ te du);split at g3
      ·rename_i hkb
       exact⟨eE.bool hkb,te,eE,by rw[hkb];rfl⟩
      ·cases g3
     ·cases g3
    have aaq:fields.toList≠[]:=fun e=>by rw[e]at Md;rw[<-Md]at cY;simp at cY
    obtain⟨dN,hgt⟩:=dM.stb fields hu (fun f hf=>(jr f hf).2.2.1) aaq;have Yu:P.fieldsOf t=fields:=by unfold Program.fieldsOf;rw[hu]
    have OC:=run_equalIn_struct (P:=P) w 9999 t xs.toArray ys.toArray (by rw[Yu];exact hu) dN;rw[Yu,oW So hy2 hx3 hy3 hA hB 9998 fields.toList jr]at OC;have Eg:=run_eqGuard_agg (P:=P) w op t x y xs.toArray ys.toArray hgt;unfold um at he;split at he
    ·cases he
     refine⟨rfl,.bool true,?_,aH.sO (GQ _)⟩;simp only[execOp,ho,He,Vu,Sem.run_bind,Eg,Sem.run_pure,Result.andThen,run_eql_struct,OC]
    ·cases he
     refine⟨rfl,.bool (!true),?_,aH.sO (GQ _)⟩;simp only[execOp,ho,He,Vu,Sem.run_bind,Eg,Sem.run_pure,Result.andThen,run_neq_struct,OC]
    ·cases he
   ·cases he
  ·cases he
 ·cases he
theorem iG (w:World) (d:Nat) {t e:TypeId} {A:Addr} {n c:Nat} (h:P.underlying t=some (.slice e)):(Op.equalIn (d+1) t (.slice (some A) n c) (.slice none 0 0)).run P w=.ok false w:=by
 simp[Op.equalIn,run_underlying h]
theorem pH (w:World) (d:Nat) {t e:TypeId} {n c:Nat} (h:P.underlying t=some (.slice e)):(Op.equalIn (d+1) t (.slice none n c) (.slice none 0 0)).run P w=.ok true w:=by
 simp[Op.equalIn,run_underlying h]
theorem Q7 (hC:bq P C) {op:BinOp} {t t':TypeId} {x y:Operand} {A:Addr} {n c:Nat} (ho:o.op=.binOp op t x y t')
  (hx:a.eval x=.slice (some A) n c) (he:IY C op t y=some e):fk P β S a w o e:=by
 unfold IY at he;split at he
 ·split at he
  ·rename_i ti bZ
   have dM:=iV (hC t ti bZ);split at he
   ·rename_i el hk
    have hy:a.eval (.const (.slice none 0 0))=.slice none 0 0:=rfl;have hu:=dM.slice hk;have heq:(Op.equal t (.slice (some A) n c) (.slice none 0 0)).run P w=.ok false w:=by
     exact iG w 9999 hu
    unfold um at he;split at he
    ·cases he
     refine⟨rfl,.bool false,?_,aH.sO (GQ _)⟩;simp[execOp,ho,hx,hy,eqGuard,binOp,heq,Result.andThen]
    ·cases he
     refine⟨rfl,.bool (!false),?_,aH.sO (GQ _)⟩;simp[execOp,ho,hx,hy,eqGuard,binOp,heq,Result.andThen]
    ·cases he
   ·cases he
  ·cases he
 ·cases he
theorem Ss (hC:bq P C) {op:BinOp} {t t':TypeId} {x y:Operand} {base:Option Addr} {n c:Nat} (ho:o.op=.binOp op t x y t')
  (hx:a.eval x=.slice base n c) (he:G9 C op t y base=some e):fk P β S a w o e:=by
 unfold G9 at he;split at he
 ·split at he
  ·rename_i ti bZ
   have dM:=iV (hC t ti bZ);split at he
   ·rename_i el hk
    have hy:a.eval (.const (.slice none 0 0))=.slice none 0 0:=rfl;have hu:=dM.slice hk;have heq:(Op.equal t (.slice base n c) (.slice none 0 0)).run P w=.ok base.isNone w:=by
     cases base with
     | some A=>exact iG w 9999 hu
     | none=>exact pH w 9999 hu
    unfold um at he;split at he
    ·cases he
     refine⟨rfl,.bool base.isNone,?_,aH.sO (GQ _)⟩;simp[execOp,ho,hx,hy,eqGuard,binOp,heq,Result.andThen]
    ·cases he
     refine⟨rfl,.bool (!base.isNone),?_,aH.sO (GQ _)⟩;simp[execOp,ho,hx,hy,eqGuard,binOp,heq,Result.andThen]
    ·cases he
   ·cases he
  ·cases he
 ·cases he
theorem O6 (hC:bq P C) (h:Sat K β S st a w) {op:BinOp} {t t':TypeId} {x y:Operand} (ho:o.op=.binOp op t x y t')
  (he:evalOp C slot st.get (look st.heap) (.binOp op t x y t')=some e):fk P β S a w o e:=by
 simp only[evalOp]at he;have hx:=h.get x;have hy:=h.get y;split at he
 ·rename_i b c Cu Vv
  rw[Cu]at hx;rw[Vv]at hy;obtain⟨hx,_⟩:=hx.scalar;obtain⟨hy,_⟩:=hy.scalar;split at he
  ·rename_i ti bZ
   have dM:=iV (hC t ti bZ);split at he
   ·rename_i hk
    cases he;refine⟨rfl,.bool (b==c),?_,aH.sO (GQ _)⟩;simp only[execOp,ho,hx,hy,eqGuard_at_bool,Sem.run_bind,Sem.run_pure,Result.andThen,binOp,run_equal_bool w t b c (dM.bool hk)]
   ·rename_i hk
    cases he;refine⟨rfl,.bool (!(b==c)),?_,aH.sO (GQ _)⟩;simp only[execOp,ho,hx,hy,eqGuard_at_bool,Sem.run_bind,Sem.run_pure,Result.andThen,binOp,run_equal_bool w t b c (dM.bool hk)]
   ·cases he
  ·cases he
 ·rename_i Cu
  rw[Cu]at hx;obtain⟨hx,_⟩:=hx.scalar;exact Ss hC ho hx he
 ·rename_i b c _ _ Cu Vv
  rw[Cu]at hx;rw[Vv]at hy;obtain⟨hx,_⟩:=hx.scalar;obtain⟨hy,_⟩:=hy.scalar;obtain⟨v,hv,rfl⟩:=Option.map_eq_some_iff.1 he;obtain⟨h1,h2⟩:=Mc hv t x y P w;refine⟨rfl,v,?_,aH.sO h2⟩;rw[<-hx,<-hy]at h1;simp only[execOp,ho,Sem.run_bind,Sem.run_pure,Result.andThen]at h1 ⊢;rw[h1]
 ·rename_i A B Cu Vv
  rw[Cu]at hx;rw[Vv]at hy;split at he
  ·rename_i e1 h1
   cases he;exact O4 hC ho hx hy h1
  ·exact Sr hC ho hx hy he
 ·rename_i Cu
  rw[Cu]at hx;generalize eI:a.eval x=av at hx;cases hx with|c hx=>
  cases hx with|t hx=>
  cases hx with|aa _ _ base cb co ai cap val h1 h2 h3 h4 h5=>
  obtain rfl:=h5 (by simp);exact Q7 hC ho eI he
 ·rename_i Cu
  rw[Cu]at hx;generalize eI:a.eval x=av at hx;cases hx with|c hx=>
  cases hx with|sl R base cap hR h1 h2 h3 h4 h5=>
  obtain rfl:=h5 (by omega);exact Q7 hC ho eI he
 ·cases he
theorem Su (h:Sat K β S st a w) {op:UnOp} {t:TypeId} {x:Operand} (ho:o.op=.unOp op t x)
  (he:evalOp C slot st.get (look st.heap) (.unOp op t x)=some e):fk P β S a w o e:=by
 simp only[evalOp]at he;have hx:=h.get x;split at he
 ·rename_i b Cu
  rw[Cu]at hx;obtain⟨hx,_⟩:=hx.scalar;obtain⟨v,hv,rfl⟩:=Option.map_eq_some_iff.1 he;unfold Ys at hv;split at hv
  ·cases hv
   exact⟨rfl,_,by simp[execOp,ho,hx,Op.unary,Op.intArith,Result.andThen],aH.sO (GP _ _)⟩
  ·cases hv
   exact⟨rfl,_,by simp[execOp,ho,hx,Op.unary,Result.andThen],aH.sO (GQ _)⟩
  ·cases hv
 ·cases he
theorem O7 (hC:bq P C) (h:Sat K β S st a w) {t:TypeId} {x i:Operand} (ho:o.op=.index t x i)
  (he:evalOp C slot st.get (look st.heap) (.index t x i)=some e):fk P β S a w o e:=by
 simp only[evalOp]at he;have hx:=h.get x;have hi:=h.get i;split at he
 ·rename_i ti n bZ hn
  have dM:=iV (hC t ti bZ);obtain⟨k,Ma,_⟩:=hi.int hn;split at he
  ·rename_i len el l hk hg
   rw[hg]at hx;obtain⟨vs,eI,hlen,pF⟩:=hx.Cr;split at he
   ·rename_i te du
    have eE:=iV (hC _ te du);split at he
    ·rename_i hr
     obtain⟨v,hv,rfl⟩:=Option.map_eq_some_iff.1 he;obtain⟨u,h3,h4⟩:=qS (P:=P) (w:=w) eE hv hlen pF;refine⟨rfl,u,?_,h4⟩;simp only[execOp,ho,Instr.index,Ma,asIntOf,eI,Sem.run_bind,Sem.run_pure,Result.andThen,run_underlying (dM.array hk),if_pos hr,eE.sizeOf,h3]
    ·cases he
   ·cases he
  ·rename_i s hk hg
   rw[hg]at hx;obtain⟨hx,_⟩:=hx.scalar;split at he
   ·rename_i J4
    split at he
    ·rename_i b hb
     cases he;refine⟨rfl,.int .u8 b.toNat,?_,aH.sO (GP _ _)⟩;simp only[execOp,ho,Instr.index,Ma,asIntOf,hx,Sem.run_bind,Sem.run_pure,Result.andThen,run_underlying (dM.string hk),if_pos J4,hb]
    ·cases he
   ·cases he
  ·cases he
 ·cases he
theorem Vw (hC:bq P C) (h:Sat K β S st a w) {args:Array Operand} {argTypes:Array TypeId} {t:TypeId} {x:Operand} (ho:o.op=.call { callee:=.builtin .len,args,argTypes })
  (ha:args.toList=[x]) (ht:argTypes[0]?=some t) (he:oU C (look st.heap) t (st.get x)=some e):fk P β S a w o e:=by
 have hx:=h.get x;have dG:args=#[x]:=by rw[<-Array.toArray_toList (xs:=args),ha]
 subst dG;have cZ:∀v,(Builtin.len_ argTypes o.type #[a.eval x]).run P w=.ok v w->(execOp a.eval o).run P w=.ok (.value v) w:=by
  intro v hv;simp only[execOp,ho,resolve,invoke,builtin,Sem.run_bind,Sem.run_pure,Result.andThen,List.map_toArray,List.map_cons,List.map_nil,hv]
 unfold oU at he;split at he
 ·cases he
 ·rename_i ti bZ
  have dM:=iV (hC t ti bZ);split at he
  ·rename_i el b off len cp hk hg
   cases he;rw[hg]at hx;cases hx with|c hx=>
   generalize eI:a.eval x=av at hx;cases hx with|sl R base cap hR h1 h2 h3 h4 h5=>
   refine⟨rfl,.int .i64 len,cZ _ ?_,aH.sO (GP _ _)⟩;simp[Builtin.len_,ht,eI,run_underlying (dM.slice hk),Result.andThen,goInt]
  ·rename_i el cp rows hk hg
   cases he;rw[hg]at hx;cases hx with|c hx=>
   cases hx with|t hx=>
   generalize eI:a.eval x=av at hx;cases hx with|aa _ _ base cb co ai cap val h1 h2 h3 h4 h5 Q4 h6 h7 h8=>
   refine⟨rfl,.int .i64 rows.length,cZ _ ?_,aH.sO (GP _ _)⟩;simp[Builtin.len_,ht,eI,run_underlying (dM.slice hk),Result.andThen,goInt]
  ·rename_i s hk hg
   cases he;rw[hg]at hx;obtain⟨hx,_⟩:=hx.scalar;refine⟨rfl,.int .i64 s.size,cZ _ ?_,aH.sO (GP _ _)⟩;simp[Builtin.len_,ht,hx,run_underlying (dM.string hk),Result.andThen,goInt]
  ·rename_i n el hk
   cases he;refine⟨rfl,.int .i64 n,cZ _ ?_,aH.sO (GP _ _)⟩;simp[Builtin.len_,ht,run_underlying (dM.array hk),Result.andThen,goInt]
  ·rename_i k el b hk hg
   rw[hg]at hx;cases hx with|c hx=>
   generalize eI:a.eval x=av at hx;cases hx with|mp R hR=>
   split at he
   ·rename_i cR hb
    cases he;obtain⟨R',h6,h7,_⟩:=h.au b _ hb;rw[hR]at h6;cases h6;obtain⟨_,es,clock,h8,h9,_⟩:=h7;refine⟨rfl,.int .i64 cR.length,cZ _ ?_,aH.sO (GP _ _)⟩;simp[Builtin.len_,ht,eI,run_underlying (dM.map hk),Result.andThen,goInt,getObj,Sem.run,h8,h9]
   ·cases he
  ·cases he
theorem Q9 (h:Sat K β S st a w) {args:Array Operand} {argTypes:Array TypeId} {gt:Bool} {x y:Operand} (ho:o.op=.call { callee:=.builtin (if gt then .max else .min),args,argTypes })
  (ha:args.toList=[x,y]) (he:Ak gt [st.get x,st.get y]=some e):fk P β S a w o e:=by
 have dG:args=#[x,y]:=by rw[<-Array.toArray_toList (xs:=args),ha]
 subst dG;unfold Ak at he;split at he
 ·rename_i k p k' q heq
  simp only[List.cons.injEq,and_true]at heq;have hx:=h.get x;have hy:=h.get y;rw[heq.1]at hx;rw[heq.2]at hy;obtain⟨hx,_⟩:=hx.scalar;obtain⟨hy,_⟩:=hy.scalar;split at he
  ·cases he
   cases gt
   ·refine⟨rfl,_,?_,aH.sO (GP _ _)⟩
    simp[execOp,ho,resolve,invoke,builtin,Builtin.min_,hx,hy,Builtin.min2,Result.andThen]
   ·refine⟨rfl,_,?_,aH.sO (GP _ _)⟩
    simp[execOp,ho,resolve,invoke,builtin,Builtin.max_,hx,hy,Builtin.max2,Result.andThen]
  ·cases he
 ·cases he
end
theorem gF {α:Type} {rows:List (List α)} {l n i j:Nat} {t:α} (h:fg ((rows.drop l).take n) i j=some t):i<n/\fg rows (l+i) j=some t:=by
 obtain⟨row,h1,h2,_,_⟩:=iS h;rw[List.getElem?_take]at h1;split at h1
 ·rename_i hi
  rw[List.getElem?_drop]at h1;exact⟨hi,GM h1 h2⟩
 ·cases h1
theorem qU {α:Type} {rows:List α} {l n:Nat} {r:α} (h:r∈(rows.drop l).take n):r∈rows:=
 List.mem_of_mem_drop (List.mem_of_mem_take h)
section
variable {P:Program} {w:World}
theorem jl {v:Value} {k:IntKind} {n:Int} (hv:v=.int k n) {y:Nat} (h0:0<=n) (h1:n<=y) (code:BoundsCode) :
  (Instr.sliceBound v y code).run P w=.ok n.toNat w:=by
 subst hv;simp[Instr.sliceBound,asIntOf,Result.andThen,h0,h1]
def fC (v:Option Value) (n:Option Int):Prop:=match v,n with
 | none,none=>True
 | some v,some n=>∃k,v=.int k n
 | _,_=>False
theorem fW {isSlice:Bool} {len cap:Nat} {lo hi mx:Option Value} {l:Int} {h m:Option Int}
  (OE:fC lo (some l)∨(lo=none/\l=0)) (UB:fC hi h) (J6:fC mx m) (hm:m.isSome=true->h.isSome=true)
  (h0:0<=l) (h1:l<=h.getD len) (h2:h.getD len<=m.getD cap) (h3:m.getD cap<=cap) :
  (Instr.sliceBounds isSlice len cap lo hi mx).run P w=.ok (l.toNat,(h.getD len).toNat,(m.getD cap).toNat) w:=by
 have e0:(lo=none/\l=0)∨(∃v k,lo=some v/\v=Value.int k l):=by
  rcases OE with OE|h
  ·cases lo with
   | none=>exact OE.elim
   | some v=>obtain⟨k,hk⟩:=OE;exact .inr ⟨v,k,rfl,hk⟩
  ·exact .inl h
 clear OE;unfold Instr.sliceBounds;cases mx with
 | none=>
  cases m with
  | some m=>exact J6.elim
  | none=>
   simp only[Option.getD_none]at h2 h3;cases hi with
   | none=>
    cases h with
    | some h=>exact UB.elim
    | none=>
     simp only[Option.getD_none]at h1 h2;rcases e0 with⟨rfl,rfl⟩|⟨v0,k0,rfl,OD⟩
     ·simp[Result.andThen]
     ·have e1:=jl (P:=P) (w:=w) (y:=len) OD h0 h1 BoundsCode.sliceB
      simp[Result.andThen,e1]
   | some v=>
    cases h with
    | none=>exact UB.elim
    | some h=>
     obtain⟨k,hk⟩:=UB;simp only[Option.getD_some]at h1 h2;have e2:=jl (P:=P) (w:=w) hk (by omega) h2 (if isSlice then BoundsCode.sliceAcap else BoundsCode.sliceAlen);rcases e0 with⟨rfl,rfl⟩|⟨v0,k0,rfl,OD⟩
     ·simp[Result.andThen,e2]
     ·have e1:=jl (P:=P) (w:=w) (y:=h.toNat) OD h0 (by omega) BoundsCode.sliceB
      simp[Result.andThen,e1,e2]
 | some vm=>
  cases m with
  | none=>exact J6.elim
  | some m=>
   obtain⟨km,hkm⟩:=J6;simp only[Option.getD_some]at h2 h3;cases hi with
   | none=>
    cases h with
    | some h=>exact UB.elim
    | none=>simp at hm
   | some v=>
    cases h with
    | none=>exact UB.elim
    | some h=>
     obtain⟨k,hk⟩:=UB;simp only[Option.getD_some]at h1 h2;have e3:=jl (P:=P) (w:=w) hkm (by omega) h3 (if isSlice then BoundsCode.slice3Acap else BoundsCode.slice3Alen);have e2:=jl (P:=P) (w:=w) (y:=m.toNat) hk (by omega) (by omega) BoundsCode.slice3B;rcases e0 with⟨rfl,rfl⟩|⟨v0,k0,rfl,OD⟩
     ·simp[Result.andThen,e2,e3]
     ·have e1:=jl (P:=P) (w:=w) (y:=h.toNat) OD h0 (by omega) BoundsCode.slice3C
      simp[Result.andThen,e1,e2,e3]
theorem fC.of {β:Nat->Option bR} {S:Place} {K:Ctx} {st:St} {a:Act} (h:Sat K β S st a w) {x:Option Operand} {n:Option Int}
  (hx:(match x.map st.get with|none=>some none|some v=>v.int?.map some)=some n):fC (x.map a.eval) n:=by
 cases x with
 | none=>simp at hx;subst hx;trivial
 | some x=>
  simp only[Option.map_some]at hx;obtain⟨m,h1,rfl⟩:=Option.map_eq_some_iff.1 hx;obtain⟨k,h2,_⟩:=(h.get x).int h1;exact⟨k,h2⟩
theorem fC.low {β:Nat->Option bR} {S:Place} {K:Ctx} {st:St} {a:Act} (h:Sat K β S st a w) {x:Option Operand} {n:Int}
  (hx:(match x.map st.get with|none=>some 0|some v=>v.int?)=some n):fC (x.map a.eval) (some n)∨(x.map a.eval=none/\n=0):=by
 cases x with
 | none=>simp at hx;subst hx;exact .inr ⟨rfl,rfl⟩
 | some x=>
  simp only[Option.map_some]at hx;obtain⟨k,h2,_⟩:=(h.get x).int hx;exact .inl ⟨k,h2⟩
end
section
variable {P:Program} {C:eh} {K:Ctx} {β:Nat->Option bR} {S:Place} {st:St} {a:Act} {w:World} {slot:Nat} {e:bW} {o:Oper}
theorem O8 (hC:bq P C) (h:Sat K β S st a w) {t:TypeId} {x:Operand} {lo hi mx:Option Operand} (ho:o.op=.slice t x lo hi mx) (OF:∀ti n el,C.ty t=some ti->ti.kind ≠ .array n el)
  (he:dm C (look st.heap) t (st.get x) (lo.map st.get) (hi.map st.get) (mx.map st.get)=some e):fk P β S a w o e:=by
 unfold dm at he;have hx:=h.get x;split at he
 ·cases he
 ·rename_i ti bZ
  have dM:=iV (hC t ti bZ);split at he
  ·rename_i l lh m hl hh hm
   have bl:=fC.low h hl;have bh:=fC.of h hh;have bm:=fC.of h hm;split at he
   ·rename_i s hk hg
    rw[hg]at hx;obtain⟨hx,_⟩:=hx.scalar;simp only at he;split at he
    ·rename_i hr
     obtain⟨r1,r2,r3,rfl⟩:=hr;cases he;have Hf:mx.map a.eval=none:=by
      cases J6:mx.map a.eval with
      | none=>rfl
      | some v=>rw[J6]at bm;exact bm.elim
     have:=fW (P:=P) (w:=w) (isSlice:=false) (len:=s.size) (cap:=s.size) (mx:=none) (m:=none) bl bh trivial (by simp) r1 r2 (by simpa using r3) (by simp);refine⟨rfl,.string (s.extract l.toNat (lh.getD s.size).toNat),?_,aH.sO (pG _)⟩;simp only[execOp,ho,Instr.sliceAt,Instr.slice,run_underlying (dM.string hk),Sem.run_bind,Sem.run_pure,Result.andThen,hx,Hf,Option.isSome_none,Bool.false_eq_true,if_false,this]
    ·cases he
   ·rename_i el b off len cp hk hg
    rw[hg]at hx;cases hx with|c hx=>
    generalize eI:a.eval x=av at hx;cases hx with|sl R base cap hR h1 h2 h3 h4 h5=>
    simp only at he;split at he
    ·rename_i hr
     obtain⟨r1,r2,r3⟩:=hr;split at he
     ·rename_i sz rows g fz te hb du
      split at he
      ·rename_i js
       obtain⟨q1,q2⟩:=js;cases he;have eE:=iV (hC _ te du);obtain⟨R',h6,h7,_⟩:=h.au b _ hb;rw[hR]at h6;cases h6;have Hf:mx.map a.eval=none:=by
        cases J6:mx.map a.eval with
        | none=>rfl
        | some v=>rw[J6]at bm;exact bm.elim
       have dN:l.toNat*te.size=l.toNat*R.ai:=by rw[<-q2,h7.1]
       have:=fW (P:=P) (w:=w) (isSlice:=true) (len:=len) (cap:=cap) (mx:=none) (m:=none) bl bh trivial (by simp) r1 r2 (by simp;omega) (by simp);refine⟨rfl,.slice (if cap=l.toNat then base else base.map (·.add (l.toNat*te.size))) ((lh.getD len).toNat-l.toNat) (cap-l.toNat),?_,.c (.sl R _ _ hR ?_ ?_ ?_ ?_ ?_)⟩
       ·simp only[execOp,ho,Instr.sliceAt,Instr.slice,run_underlying (dM.slice hk),Sem.run_bind,Sem.run_pure,Result.andThen,eI,Hf,this,eE.sizeOf,Option.getD_none,Int.toNat_natCast]
       ·intro yt
        have:=q1 yt;have:=h1 yt;omega
       ·intro yt
        have:=h2 yt;omega
       ·omega
       ·omega
       ·intro h0
        rw[if_neg (by omega),h5 (by omega)];simp only[Option.map_some,I0,dN,Nat.add_mul,Nat.add_assoc]
      ·cases he
     ·rename_i m' sz rows g fz te hb du
      split at he
      ·rename_i js
       obtain⟨q0,q1,q2⟩:=js;cases he;have eE:=iV (hC _ te du);obtain⟨R',h6,h7,_⟩:=h.au b _ hb;rw[hR]at h6;cases h6;have dN:l.toNat*te.size=l.toNat*R.ai:=by rw[<-q2,h7.1]
       have:=fW (P:=P) (w:=w) (isSlice:=true) (len:=len) (cap:=cap) bl bh bm (fun _=>q1) r1 r2 (by simp;omega) (by simp;omega);refine⟨rfl,.slice (if m'.toNat=l.toNat then base else base.map (·.add (l.toNat*te.size))) ((lh.getD len).toNat-l.toNat) (m'.toNat-l.toNat),?_,.c (.sl R _ _ hR ?_ ?_ ?_ ?_ ?_)⟩
       ·simp only[execOp,ho,Instr.sliceAt,Instr.slice,run_underlying (dM.slice hk),Sem.run_bind,Sem.run_pure,Result.andThen,eI,this,eE.sizeOf,Option.getD_some]
       ·intro _;omega
       ·simp
       ·omega
       ·omega
       ·intro h0
        rw[if_neg (by omega),h5 (by omega)];simp only[Option.map_some,I0,dN,Nat.add_mul,Nat.add_assoc]
      ·cases he
     ·rename_i cells te hb du
      split at he
      ·rename_i js
       obtain⟨q1,q2⟩:=js;cases he;have eE:=iV (hC _ te du);obtain⟨R',h6,h7,_⟩:=h.au b _ hb;rw[hR]at h6;cases h6;have Hf:mx.map a.eval=none:=by
        cases J6:mx.map a.eval with
        | none=>rfl
        | some v=>rw[J6]at bm;exact bm.elim
       have dN:l.toNat*te.size=l.toNat*R.ai:=by rw[q2,h7.1.2.1]
       have:=fW (P:=P) (w:=w) (isSlice:=true) (len:=len) (cap:=cap) (mx:=none) (m:=none) bl bh trivial (by simp) r1 r2 (by simp;omega) (by simp);refine⟨rfl,.slice (if cap=l.toNat then base else base.map (·.add (l.toNat*te.size))) ((lh.getD len).toNat-l.toNat) (cap-l.toNat),?_,.c (.sl R _ _ hR ?_ ?_ ?_ ?_ ?_)⟩
       ·simp only[execOp,ho,Instr.sliceAt,Instr.slice,run_underlying (dM.slice hk),Sem.run_bind,Sem.run_pure,Result.andThen,eI,Hf,this,eE.sizeOf,Option.getD_none,Int.toNat_natCast]
       ·intro yt
        have:=q1 yt;have:=h1 yt;omega
       ·intro yt
        have:=h2 yt;omega
       ·omega
       ·omega
       ·intro h0
        rw[if_neg (by omega),h5 (by omega)];simp only[Option.map_some,I0,dN,Nat.add_mul,Nat.add_assoc]
      ·cases he
     ·cases he
    ·cases he
   ·rename_i el cp rows hk hg
    rw[hg]at hx;cases hx with|c hx=>
    cases hx with|t hx=>
    generalize eI:a.eval x=av at hx;cases hx with|aa _ _ base cb co ai cap val h1 h2 h3 h4 h5 Q4 h6 h7 h8=>
    simp only at he;split at he
    ·rename_i hr
     obtain⟨r1,r2,r3⟩:=hr;have dN:∀te:TI,(rows.all fun r=>r.length==te.size)=true->l.toNat*te.size=l.toNat*ai:=by
      intro te q2;rcases Nat.eq_zero_or_pos l.toNat with h0|h0
      ·rw[h0];simp
      ·have mT:0<rows.length:=by omega
       cases pI:rows with
       | nil=>rw[pI]at mT;simp at mT
       | cons r0 rs=>
        have e1:=h6 r0 (by rw[pI];simp);have e2:=List.all_eq_true.1 q2 r0 (by rw[pI];simp);rw[beq_iff_eq]at e2;rw[<-e1,e2]
     have Am:((rows.drop l.toNat).take ((lh.getD rows.length).toNat-l.toNat)).length=(lh.getD rows.length).toNat-l.toNat:=by
      rw[List.length_take,List.length_drop];omega
     have key:∀(GR:Bool) (m2:Nat) (te:TI),(rows.all fun r=>r.length==te.size)=true->(lh.getD rows.length).toNat<=m2->m2<=cap->(GR=true->m2=(lh.getD rows.length).toNat) ->
       dR S w (.aa GR ((rows.drop l.toNat).take ((lh.getD rows.length).toNat-l.toNat)))
        (.slice (if m2=l.toNat then base else base.map (·.add (l.toNat*te.size))) ((lh.getD rows.length).toNat-l.toNat) (m2-l.toNat)):=by
      intro GR m2 te q2 An J7 yt;have J8:∀i j t,fg ((rows.drop l.toNat).take ((lh.getD rows.length).toNat-l.toNat)) i j=some t->fg rows (l.toNat+i) j=some t:=fun i j t ht=>(gF ht).2
      have Hg:∀r,r∈((rows.drop l.toNat).take ((lh.getD rows.length).toNat-l.toNat))->r∈rows:=fun r hr=>qU hr
      generalize ((rows.drop l.toNat).take ((lh.getD rows.length).toNat-l.toNat))=rs at Am J8 Hg ⊢;rw[<-Am];refine .aa GR _ _ cb (co+l.toNat*ai) ai _ (fun i j=>val (l.toNat+i) j) ?_ ?_ ?_ ?_ ?_ ?_ ?_ ?_ ?_
      ·rw[Am];omega
      ·omega
      ·rw[Am];omega
      ·intro hh;rw[Am,yt hh]
      ·intro cY
       have:0<(lh.getD rows.length).toNat-l.toNat:=by rw[<-Am];exact List.length_pos_iff.2 cY
       have mT:0<rows.length:=by omega
       rw[if_neg (by omega),h5 (List.length_pos_iff.1 mT)];simp only[Option.map_some,I0,dN te q2]
      ·intro hb
       split at hb
       ·rename_i UC;omega
       ·simp at hb;have:=Q4 hb;omega
      ·intro r hr;exact h6 r (Hg r hr)
      ·intro i j t ht
       have h9:=J8 _ _ _ ht;have:=h7 _ _ _ h9;rw[Nat.add_mul,<-Nat.add_assoc]at this;exact this
      ·intro i j t ht
       exact h8 _ _ _ (J8 _ _ _ ht)
     split at he
     ·rename_i te du
      split at he
      ·rename_i q2
       cases he;have eE:=iV (hC _ te du);have Hf:mx.map a.eval=none:=by
        cases J6:mx.map a.eval with
        | none=>rfl
        | some v=>rw[J6]at bm;exact bm.elim
       have:=fW (P:=P) (w:=w) (isSlice:=true) (len:=rows.length) (cap:=cap) (mx:=none) (m:=none) bl bh trivial (by simp) r1 r2 (by simp;omega) (by simp);refine⟨rfl,_,?_,.c (.t (key _ cap te q2 (by omega) (by omega) ?_))⟩
       ·simp only[execOp,ho,Instr.sliceAt,Instr.slice,run_underlying (dM.slice hk),Sem.run_bind,Sem.run_pure,Result.andThen,eI,Hf,this,eE.sizeOf,Option.getD_none,Int.toNat_natCast]
       ·intro yt
        simp only[Bool.and_eq_true,beq_iff_eq]at yt;rw[h4 yt.1,yt.2];simp
      ·cases he
     ·rename_i m' te du
      split at he
      ·rename_i js
       obtain⟨q0,q1,q2⟩:=js;cases he;have eE:=iV (hC _ te du);have:=fW (P:=P) (w:=w) (isSlice:=true) (len:=rows.length) (cap:=cap) bl bh bm (fun _=>q1) r1 r2 (by simp;omega) (by simp;omega);refine⟨rfl,_,?_,.c (.t (key _ m'.toNat te q2 (by omega) (by omega) (fun _=>by omega)))⟩;simp only[execOp,ho,Instr.sliceAt,Instr.slice,run_underlying (dM.slice hk),Sem.run_bind,Sem.run_pure,Result.andThen,eI,this,eE.sizeOf,Option.getD_some]
      ·cases he
     ·cases he
    ·cases he
   ·rename_i n el b r c hk hg
    exact absurd hk (OF ti n el bZ)
   ·cases he
  ·cases he
theorem mapM_some {α γ:Type} {f:α->Option γ}:∀ {l:List α} {r:List γ},l.mapM f=some r->r.length=l.length/\∀(i:Nat) (y:γ),r[i]?=some y->∃x:α,l[i]?=some x/\f x=some y
 | [],r,h=>by simp at h;subst h;simp
 | x::l,r,h=>by
  rw[List.mapM_cons]at h;cases hx:f x with
  | none=>rw[hx]at h;cases h
  | some y=>
   cases hl:l.mapM f with
   | none=>rw[hx,hl]at h;cases h
   | some r'=>
    rw[hx,hl]at h;cases h;obtain⟨h1,h2⟩:=mapM_some hl;refine⟨by simp[h1],fun i z hz=>?_⟩;cases i with
    | zero=>simp at hz;subst hz;exact⟨x,rfl,hx⟩
    | succ i=>simpa using h2 i z (by simpa using hz)
theorem Hh {h:Hp} {f:FuncId} {l:List (Nat×Nat×Nat)} {e:bW} (he:sV h f l=some e):e.val=.c (.dy f l)/\fq h l=some e.wr:=by
 unfold sV at he;split at he
 ·rename_i ws hw;cases he;exact⟨rfl,hw⟩
 ·cases he
theorem ED (h:Sat K β S st a w) {xs:List Operand} {l:List (Nat×Nat×Nat)} (hl:xs.mapM (fun x=>oV (st.get x))=some l) :
  (xs.map a.eval).length=l.length/\∀(i b r c:Nat),l[i]?=some (b,r,c)->∃R:bR,β b=some R/\(xs.map a.eval)[i]?=some (Value.pointer (some ⟨R.cb,R.co+r*R.ai+c,none⟩)):=by
 obtain⟨h1,h2⟩:=mapM_some hl;refine⟨by simp;exact h1.symm,fun i b r c hi=>?_⟩;obtain⟨x,hx,UD⟩:=h2 i _ hi;have hr:=h.get x;unfold oV at UD;split at UD
 ·rename_i b' r' c' hg
  cases UD;rw[hg]at hr;cases hr with|c hr=>
  generalize eI:a.eval x=av at hr;cases hr with|ptr R hR=>
  exact⟨R,hR,by rw[List.getElem?_map,hx,Option.map_some,eI]⟩
 ·cases UD
theorem Hi (h:Sat K β S st a w) {f:FuncId} {first aK:Array Operand} (ho:o.op=.makeFunc (.func f) first aK)
  (he:evalOp C slot st.get (look st.heap) (.makeFunc (.func f) first aK)=some e) :
  ∃g l v,e.val=.c (.dy g l)/\(fq (look st.heap) l=some e.wr∨e.wr=[])/\(execOp a.eval o).run P w=.ok (.value v) w/\aH β S w (.c (.dy g l)) v:=by
 simp only[evalOp]at he;split at he
 ·rename_i hf
  have O0:first=#[]:=Array.eq_empty_of_size_eq_zero hf
  subst O0;split at he
  ·rename_i l hb hl
   obtain⟨ev,ew⟩:=Hh he;obtain⟨h1,h2⟩:=ED h hl;refine⟨f,l,j7 f (aK.toList.map a.eval),ev,.inl ew,?_,.c (.dy _ h1 h2)⟩;have:Array.map a.eval aK=(List.map a.eval aK.toList).toArray:=by apply Array.ext';simp
   rw[Ai hb];simp[execOp,ho,Instr.makeFunc,Result.andThen,this]
  ·cases he
 ·split at he
  ·rename_i l hb hl
   cases he;have Me:aK=#[]:=Array.eq_empty_of_size_eq_zero hb;subst Me;obtain⟨h1,h2⟩:=ED h hl;refine⟨f+oL,l,j7 (f+oL) (first.toList.map a.eval),rfl,.inr rfl,?_,.c (.dy _ h1 h2)⟩;have:Array.map a.eval first=(List.map a.eval first.toList).toArray:=by apply Array.ext';simp
   rw[G7];simp[execOp,ho,Instr.makeFunc,Result.andThen,this]
  ·cases he
theorem pJ {kd:TypeDesc} {key k:Value} {b:Bool} (hk:(∃q,kd=.int q)∨kd=.string∨kd=.bool) (h:sameKey key k=some b)
  (hi:∀q,kd=.int q->∃q' n,key=.int q' n) (hs:kd=.string->∃n,key=.string n) (hb:kd=.bool->∃n,key=.bool n):Instr.sameNow kd key k=some b:=by
 rcases hk with⟨q,rfl⟩|rfl|rfl
 ·obtain⟨q',n,rfl⟩:=hi q rfl
  cases k<;>simp_all[sameKey,Instr.sameNow]
 ·obtain⟨n,rfl⟩:=hs rfl
  cases k<;>simp_all[sameKey,Instr.sameNow]
 ·obtain⟨n,rfl⟩:=hb rfl
  cases k<;>simp_all[sameKey,Instr.sameNow]
theorem uq {tk:TI} {k:TypeId} (dM:gV P k tk) {key:Value} (hf:jb tk.kind key=true) :
  ∃kd,P.underlying k=some kd/\(∀x b,sameKey key x=some b->Instr.sameNow kd key x=some b)/\∀em n w,(Instr.checkKey em (n+1) k key).run P w=.ok () w:=by
 unfold jb at hf;split at hf
 ·rename_i q q' n hq
  have hu:=dM.int hq;refine⟨_,hu,fun x b hx=>pJ (.inl ⟨_,rfl⟩) hx (fun _ _=>⟨_,_,rfl⟩) (by simp) (by simp),fun em n w=>by simp[Instr.checkKey,run_underlying hu,Result.andThen]⟩
 ·rename_i q hq
  have hu:=dM.string hq;refine⟨_,hu,fun x b hx=>pJ (.inr (.inl rfl)) hx (by simp) (fun _=>⟨_,rfl⟩) (by simp),fun em n w=>by simp[Instr.checkKey,run_underlying hu,Result.andThen]⟩
 ·rename_i q hq
  have hu:=dM.bool hq;refine⟨_,hu,fun x b hx=>pJ (.inr (.inr rfl)) hx (by simp) (by simp) (fun _=>⟨_,rfl⟩),fun em n w=>by simp[Instr.checkKey,run_underlying hu,Result.andThen]⟩
 ·cases hf
theorem mU {kd:TypeDesc} {key:Value} (hs:∀x b,sameKey key x=some b->Instr.sameNow kd key x=some b) :
  ∀(cR:List (Value×Tree)) (es:List MapEntry) (i:Nat) (r:Option Tree),cX key cR=some r->es.length=cR.length ->
  (∀(i:Nat) (k:Value) (t:Tree),cR[i]?=some (k,t)->∃e:MapEntry,es[i]?=some e/\e.key=k/\dR S w t e.val) ->
  (match r with
   | none=>Instr.findNow kd key es i=some none
   | some t=>∃(j:Nat) (e:MapEntry),Instr.findNow kd key es i=some (some (i+j,e.val))/\es[j]?=some e/\dR S w t e.val)
 | [],es,i,r,h,hl,_=>by
  simp[cX]at h;subst h;have:es=[]:=List.eq_nil_of_length_eq_zero (by simpa using hl);subst this;simp[Instr.findNow]
 | (k,t)::cR,[],_,_,_,hl,_=>by simp at hl
 | (k,t)::cR,e::es,i,r,h,hl,hr=>by
  obtain⟨e',Sv,J9,du⟩:=hr 0 k t rfl;simp at Sv;subst Sv;unfold cX at h;simp only at h;split at h
  ·rename_i LL
   cases h;have:=hs _ _ LL;refine⟨0,e,?_,rfl,du⟩;simp[Instr.findNow,J9,this]
  ·rename_i LL
   have hn:=hs _ _ LL;have ih:=mU hs cR es (i+1) r h (by simpa using hl) (fun j k' t' hj=>by simpa using hr (j+1) k' t' (by simpa using hj));cases r with
   | none=>simp only[Instr.findNow,J9,hn];exact ih
   | some t0=>
    obtain⟨j,e0,h1,h2,h3⟩:=ih;exact⟨j+1,e0,by simp only[Instr.findNow,J9,hn];rw[h1];congr 3;omega,by simpa using h2,h3⟩
  ·cases h
theorem Mf (hC:bq P C) (h:Sat K β S st a w) {t:TypeId} {x i:Operand} {ok:Bool} (ho:o.op=.lookup t x i ok)
  (he:evalOp C slot st.get (look st.heap) (.lookup t x i ok)=some e):fk P β S a w o e:=by
 simp only[evalOp]at he;have hx:=h.get x;have hi:=h.get i;split at he
 ·rename_i ti bZ
  have dM:=iV (hC t ti bZ);split at he
  ·rename_i k el b key hk Cu LM
   rw[Cu]at hx;rw[LM]at hi;obtain⟨hi,_⟩:=hi.scalar;cases hx with|c hx=>
   generalize eI:a.eval x=av at hx;cases hx with|mp R hR=>
   split at he
   ·rename_i cR tk te hb eC du
    have Sw:=iV (hC _ tk eC);have eE:=iV (hC _ te du);obtain⟨R',h6,h7,_⟩:=h.au b _ hb;rw[hR]at h6;cases h6;obtain⟨_,es,clock,h8,h9,EE⟩:=h7;split at he
    ·cases he
    ·rename_i kA
     simp only[Bool.or_eq_true,Bool.not_eq_true',not_or,Bool.not_eq_false,Bool.not_eq_true]at kA;obtain⟨hf1,Vx⟩:=kA;obtain⟨kd,Yv,O9,Cv⟩:=uq Sw hf1;have fX:(getObj R.cb).run P w=.ok (.map es clock) w:=by simp[getObj,Sem.run,h8]
     have Pa:=Cv es.isEmpty 9999 w;have cZ:∀(v:Value) (b:Bool),(match(Instr.findNow kd key es.toList 0) with
       | some (some (_,u))=>v=u/\b=true
       | some none=>(zeroValue el).run P w=.ok v w/\b=false
       | none=>False)->(execOp a.eval o).run P w=.ok (.value (if ok then .tuple #[v,.bool b] else v)) w:=by
      intro v b hv;simp only[execOp,ho,Instr.lookup,run_underlying (dM.map hk),eI,hi,Sem.run_bind,Sem.run_pure,Result.andThen,fX,Pa,Instr.findKey,run_underlying Yv];split at hv
      ·rename_i jm
       obtain⟨rfl,rfl⟩:=hv;simp only[jm,Sem.run_pure,Sem.run_bind,Result.andThen]
      ·rename_i jm
       obtain⟨hz,rfl⟩:=hv;simp only[jm,Sem.run_pure,Sem.run_bind,Result.andThen,hz]
      ·exact hv.elim
     split at he
     ·rename_i tt Ef
      cases he;obtain⟨j,en,Ra,ff,Yw⟩:=mU (S:=S) (w:=w) O9 cR es.toList 0 _ Ef (by simpa using h9) (fun i k t hi=>by obtain⟨e,a,b⟩:=EE i k t hi;exact⟨e,by simpa using a,b⟩);refine⟨rfl,_,cZ en.val true (by rw[Ra];exact⟨rfl,rfl⟩),?_⟩;cases ok
      ·exact .c (.t Yw)
      ·refine .pD [en.val,.bool true] (fun i=>[en.val,.bool true].getD i undef) rfl (fun i y hy=>?_) fun i y hy=>?_
       ·match i with
        | 0=>rfl
        | 1=>rfl
        | i+2=>simp at hy
       ·match i with
        | 0=>simp at hy;subst hy;exact .c (.t Yw)
        | 1=>simp at hy;subst hy;exact aH.sO (GQ _)
        | i+2=>simp at hy
     ·rename_i z Ef hz
      cases he;have Ra:=mU (S:=S) (w:=w) O9 cR es.toList 0 _ Ef (by simpa using h9) (fun i k t hi=>by obtain⟨e,a,b⟩:=EE i k t hi;exact⟨e,by simpa using a,b⟩);obtain⟨zv,uZ,Yx,hz3,hz4,hz5⟩:=eE.zeroValue w S;obtain⟨v0,Pb,EF⟩:=hz3 0 z (by rw[hz];rfl);rw[sY (hz4 Vx)]at Pb;simp at Pb;subst Pb;refine⟨rfl,_,cZ zv false (by rw[Ra];exact⟨uZ,rfl⟩),?_⟩;cases ok
      ·exact .c (.t EF)
      ·refine .pD [zv,.bool false] (fun i=>[zv,.bool false].getD i undef) rfl (fun i y hy=>?_) fun i y hy=>?_
       ·match i with
        | 0=>rfl
        | 1=>rfl
        | i+2=>simp at hy
       ·match i with
        | 0=>simp at hy;subst hy;exact .c (.t EF)
        | 1=>simp at hy;subst hy;exact aH.sO (GQ _)
        | i+2=>simp at hy
     ·cases he
   ·cases he
  ·cases he
 ·cases he
end
end Go.Abs
end
