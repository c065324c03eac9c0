/- A part. -/
import Derived.ChangeKeysEq
import Derived.Laws.StructEq
import Derived.Test.YtekefilngojelaaGreatM1
set_option maxHeartbeats 0
set_option maxRecDepth 100000
set_option linter.unusedVariables false
set_option linter.unusedSimpArgs false
set_option linter.unusedSectionVars false
section
namespace Go.Abs
section
variable {P:Program} {β:Nat->Option bZ} {S:Place} {w:World}
theorem Et {e:TypeId} {te:TI} (dx:g9 P e te) (ha:te.kind.agg=false) {A:List Cell} {vs:List Value} (hlen:vs.length=A.length)
  (hc:∀(j:Nat) (y:Cell),A[j]?=some y->∃v,vs[j]?=some v/\dv β S w y v) {i:Nat} {k:IntKind} {a:Int} (hi:A[i]?=some (.t (.v (.int k a)))) :
  (part e vs.toArray i).run P w=.ok (.int k a) w:=by
 have hg:dn te A i=some (.c (.t (.v (.int k a)))):=by unfold dn;rw[if_neg (by simp[ha]),hi];rfl
 obtain⟨v,h1,h2⟩:=qY (P:=P) (w:=w) dx hg hlen hc;rw[h1,h2.scalar.1]
theorem vZ {e:TypeId} {te:TI} (dx:g9 P e te) (ha:te.kind.agg=false) {k0:IntKind} (hu:P.underlying e=some (.int k0)) {A B:List Cell} {xs ys:List Value} (hx:xs.length=A.length) (hy:ys.length=B.length)
  (cx:∀(j:Nat) (y:Cell),A[j]?=some y->∃v,xs[j]?=some v/\dv β S w y v) (cy:∀(j:Nat) (y:Cell),B[j]?=some y->∃v,ys[j]?=some v/\dv β S w y v) (d:Nat) :
  ∀(la lb:List Cell) (k:Nat) (r:Bool),la=A.drop k->lb=B.drop k->kj la lb=some r->(Op.eqItems (d+1) e 1 xs.toArray ys.toArray (List.range' k la.length)).run P w=.ok r w
 | [],[],k,r,_,_,h=>by
  simp only[kj,Option.some.injEq]at h;subst h;simp[Op.eqItems]
 | c::la,c'::lb,k,r,h1,h2,h=>by
  unfold kj at h;split at h
  ·rename_i heq _;cases heq
  ·rename_i k1 a xs' k2 b ys' e1 e2
   cases e1;cases e2;split at h
   ·rename_i hk
    subst hk;obtain⟨r',vx,rfl⟩:=Option.map_eq_some_iff.1 h;have g1:A[k]?=some (.t (.v (.int k1 a))):=by have:=congrArg (·[0]?) h1;simpa using this.symm
    have g2:B[k]?=some (.t (.v (.int k1 b))):=by have:=congrArg (·[0]?) h2;simpa using this.symm
    have p1:=Et (P:=P) dx ha hx cx g1;have p2:=Et (P:=P) dx ha hy cy g2;have t1:la=A.drop (k+1):=by rw[<-List.drop_drop (i:=1) (j:=k),<-h1];simp
    have t2:lb=B.drop (k+1):=by rw[<-List.drop_drop (i:=1) (j:=k),<-h2];simp
    have ih:=vZ dx ha hu hx hy cx cy d la lb (k+1) r' t1 t2 vx;simp only[List.length_cons,List.range'_succ,Op.eqItems,Sem.run_bind,Nat.mul_one,p1,p2,Result.andThen_ok,run_equalIn_int w d e k1 k0 a b hu]
    by_cases GA:a=b
    ·subst GA;simpa using ih
    ·simp[GA]
   ·cases h
  ·cases h
 | [],_::_,_,_,_,_,h=>by simp[kj]at h
 | _::_,[],_,_,_,_,h=>by simp[kj]at h
end
end Go.Abs
end
