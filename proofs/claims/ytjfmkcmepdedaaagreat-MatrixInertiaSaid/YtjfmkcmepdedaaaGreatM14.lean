/-
  A part of the proof: GabsLaw.
-/
import Derived.Test.YtjfmkcmepdedaaaGreatM13
import Derived.ChangeSame
import Derived.Carry
import Derived.ProofKit
set_option maxHeartbeats 0
set_option maxRecDepth 100000
set_option linter.unusedVariables false
set_option linter.unusedSimpArgs false
set_option linter.unusedSectionVars false
section
namespace Go.Abs
open Go.RowKit Go.WideShapes Go.ChangeShapes
theorem Keep.below {w w':World} (h:Keep (fun _ _=>False) w w'):Below w.heap.size w w':=by
 refine ⟨h.os,h.tape,h.output,h.size,fun k hk=>?_⟩
 have hg:w.heap[k]?=some w.heap[k]:=Array.getElem?_eq_getElem hk
 have:=h.obj k _ hg
 rw [hg]
 cases hx:w.heap[k] with
 | cells c el fr=>
  rw [hx] at this
  obtain ⟨c1,e1,s1,f1⟩:=this
  rw [e1,show c1=c from Array.ext_getElem? fun i=>f1 i (fun h=>h)]
 | map es cl=>
  rw [hx] at this
  obtain ⟨es1,cl1,e1,f1⟩:=this
  obtain ⟨rfl,rfl⟩:=f1 fun i h=>h
  exact e1
 | _=>rw [hx] at this; exact this
def old (w:World):Place:=fun c _=>c < w.heap.size
theorem law_calls {P:Program} {f:FuncId} {args:List TV} {outs:List (Option Blk)} (hc:ACall P f (args.map .val) ⟨[.val (tb true)],outs⟩) (w:World) (vals:List Value) (hlen:vals.length=args.length)
  (hrep:∀ (i:Nat) (x:TV),args[i]?=some x->∃ v,vals[i]?=some v/\VRep noβ (old w) w x.av v) :
  Calls P f vals.toArray w fun e w'=>e=.returned (.bool true)/\Below w.heap.size w w':=by
 have hget:∀ (i:Nat) (a:Arg),(args.map Arg.val)[i]?=some a->∃ x,args[i]?=some x/\a=.val x:=by
  intro i a hi
  rw [List.getElem?_map] at hi
  obtain ⟨x,h1,h2⟩:=Option.map_eq_some_iff.1 hi
  exact ⟨x,h1,h2.symm⟩
 have hnob:∀ (i:Nat) (a:Arg) (b:Blk),(args.map Arg.val)[i]?=some a->a.blk=some b->False:=by
  intro i a b hi hb
  obtain ⟨x,_,rfl⟩:=hget i a hi
  cases hb
 have hpre:CallPre (args.map .val) (old w) w vals (fun _=>⟨0,0,0,0⟩):=by
  refine ⟨by simpa using hlen,fun i a hi=>?_,fun c o h=>h,fun i a b h1 h2=>(hnob i a b h1 h2).elim,fun i j x y b b' _ h1 _ h3 _=>(hnob i x b h1 h3).elim,fun i f caps v hi _=>?_⟩
  ·obtain ⟨x,h1,rfl⟩:=hget i a hi
   exact hrep i x h1
  ·obtain ⟨x,_,h2⟩:=hget i _ hi
   cases h2
 have hnv:(vals.take (nvA (args.map Arg.val)))=vals:=by
  rw [nvA_all (fun x hx ts he=>by
   obtain ⟨i,hi⟩:=List.getElem?_of_mem hx
   obtain ⟨y,_,h2⟩:=hget i x hi
   rw [h2] at he; cases he),List.take_of_length_le (by rw [hpre.len]; exact Nat.le_refl _)]
 have hc2:=hc.2 (old w) w vals _ hpre
 rw [hnv] at hc2
 refine hc2.mono ?_
 rintro e w' ⟨v,rfl,hq⟩
 obtain ⟨S',Rr,vs,q1,q2,q3,q4,q5,q6,_⟩:=hq.p
 obtain ⟨u,e1,e2⟩:=q6 0 (.val (tb true)) rfl
 have hu:u=.bool true:=by
  cases e2 with | c e2=>cases e2 with | t e2=>cases e2 with | v _ _=>rfl
 have hvs:vs=[u]:=by
  match vs,q1,e1 with
  | [x],_,e1=>simp at e1; rw [e1]
 refine ⟨?_,Keep.below ?_⟩
 ·rw [q2,hvs,hu]; rfl
 ·have:Lent (args.map Arg.val) (fun _=>⟨0,0,0,0⟩)=fun _ _=>False:=by
   funext c o
   refine propext ⟨fun ⟨i,a,b,h1,h2,_⟩=>(hnob i a b h1 h2).elim,fun h=>h.elim⟩
  rw [this] at q3
  exact q3
section
variable {H:Type} {enc:TypeId × Value->H} {P:Program}
theorem post_of_below {f:Func} {s:ChangeSpec} {apart fresh handsOn again:Bool} {W W':World} {args:Array Value} {v:Value} {ds gs:List (DataW H)} {before pa pv:List MemPlace}
  (hW:DataW.Whole enc P f.params.toList s.vars apart W args.toList ds gs before)
  (hres:∀ (b:Nat) (sp:Nat->Bool) (hd:Bool),DataW.TrodAll enc P W' b sp hd f.resultTypes.toList (v.resultList f.resultTypes.size) (s.fn H (ds ++ gs)).results [])
  (hargs:∀ sp:Nat->Bool,(∀ p ∈ before,sp p.block=true)->DataW.TrodAll enc P W' 0 sp true f.params.toList args.toList (s.fn H (ds ++ gs)).args pa)
  (hvars:∀ sp:Nat->Bool,(∀ p ∈ before,sp p.block=true)->DataW.TrodVars enc P W' sp s.vars (s.fn H (ds ++ gs)).vars pv)
  (hps:before=pa ++ pv) (hb:Below W.heap.size W W')
  (hok:∀ (j:Nat) (t:TypeId) (r:Value),f.resultTypes[j]?=some t->(v.resultList f.resultTypes.size)[j]?=some r->Value.okWide P W' .any 0 t r) :
  s.post enc P f apart fresh handsOn again W args v W':=by
 have hlt:∀ p ∈ before,p.block < W.heap.size:=fun p hp=>hW.lt p hp
 have hold:∀ p ∈ before,(fun b=>decide (b < W.heap.size)) p.block=true:=fun p hp=>by simpa using hlt p hp
 refine ⟨ds,gs,before,[],pa,pv,hW,hres _ _ _,hargs _ hold,hvars _ hold,World.keptBut_mono (fun p hp=>⟨hp,?_⟩) (hb.frame (· ∈ before)),fun _=>?_⟩
 ·rw [hps,List.mem_append] at hp
  exact Or.inr hp
 ·obtain ⟨_,_,_,_,_,hz,hn⟩:=hW
  refine ⟨hok,_,_,([] ++ pa) ++ pv,⟨[] ++ pa,pv,trodAll_append (hargs _ (fun _ _=>rfl)) (hres _ _ _),hvars _ (fun _ _=>rfl),rfl,?_,?_⟩,?_⟩
  ·intro b off hp
   have hin:MemPlace.cell b off ∈ before:=by rw [hps]; simpa using hp
   rw [hb.frozen (hlt _ hin)]
   exact hz b off hin
  ·intro ha
   have:=hn ha
   rw [hps] at this
   simpa using this
  ·intro p hp _
   rw [hps]
   simpa using hp
end
theorem bd_u8 {n:Int} (h:(Lit.int .u8 n).wf=true):0<=n/\n < 256:=by
 have h1:(decide (IntKind.min .u8<=n) && decide (n<=IntKind.max .u8))=true:=h
 rw [Bool.and_eq_true,decide_eq_true_eq,decide_eq_true_eq,show IntKind.min .u8=0 from by decide,show IntKind.max .u8=255 from by decide] at h1
 omega
theorem bd_i8 {n:Int} (h:(Lit.int .i8 n).wf=true):-128<=n/\n < 128:=by
 have h1:(decide (IntKind.min .i8<=n) && decide (n<=IntKind.max .i8))=true:=h
 rw [Bool.and_eq_true,decide_eq_true_eq,decide_eq_true_eq,show IntKind.min .i8=-128 from by decide,show IntKind.max .i8=127 from by decide] at h1
 omega
end Go.Abs
end
