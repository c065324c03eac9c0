/- A part of the proof. -/
import Derived.Test.YtekefilngojelaaGreatM18
import Derived.Test.YtekefilngojelaaGreatM25
set_option maxHeartbeats 0
set_option maxRecDepth 100000
set_option linter.unusedVariables false
set_option linter.unusedSimpArgs false
section
namespace Go.Proofs.YtekefilngojelaaGreat
open Go Go.Abs Go.Abs.M Go.Proofs
theorem Sc {l:List (List T2)} (h:l.length<=2):l=[]∨(∃a,l=[a])∨∃a b,l=[a,b]:=by
 rcases l with _|⟨a,_|⟨b,_|⟨_,_⟩⟩⟩
 ·exact Or.inl rfl
 ·exact Or.inr (Or.inl ⟨a,rfl⟩)
 ·exact Or.inr (Or.inr ⟨a,b,rfl⟩)
 ·simp at h
theorem Sd {l:List (List T2)} (h:l.length<=3):l=[]∨(∃a,l=[a])∨(∃a b,l=[a,b])∨∃a b c,l=[a,b,c]:=by
 rcases l with _|⟨a,_|⟨b,_|⟨c,_|⟨_,_⟩⟩⟩⟩
 ·exact Or.inl rfl
 ·exact Or.inr (Or.inl ⟨a,rfl⟩)
 ·exact Or.inr (Or.inr (Or.inl ⟨a,b,rfl⟩))
 ·exact Or.inr (Or.inr (Or.inr ⟨a,b,c,rfl⟩))
 ·simp at h
theorem IM (N kd fF:Int) (E D:List (List T2)) (hE:E.length<=3) (hD:D.length<=2) (p:List T2) (hk:kd.tmod 8=0) (b:Bool)
  (hv:ah Tryz.prog 34 [.val (.agg [.v (.int .i64 N),.aa false (an E),.aa false (an D)])] ⟨[.val (tb b)],[none]⟩) :
  ah Tryz.prog 10 [.val (.agg [.v (.int .i64 N),.aa false (an E),.aa false (an D)]),.val (ti .u8 kd),.val (ti .u8 fF),.val (tl (aV p))] ⟨[.val (.agg (if b=true then [.v (.int .i64 N),.aa false (an E),.aa false (an D)] else [.v (.int .i64 N),.aa false (an E),.aa false (an D)]))],[none,none,none,none]⟩:=by
 obtain rfl|⟨d0,rfl⟩|⟨d0,d1,rfl⟩:=Sc hD
 all_goals
  obtain rfl|⟨e0,rfl⟩|⟨e0,e1,rfl⟩|⟨e0,e1,e2,rfl⟩:=Sd hE
  all_goals as_aux_lemma=>
   simp only[an,List.map_cons,List.map_nil,List.cons_append,List.nil_append,List.length_cons,List.length_nil]at hv ⊢;generalize aV=T at *;refine ep aj mixed [.val] Tryz.func10 rfl rfl (by kernel_rfl) fun _ _ _ _ _ zJ _ _ _ _ _ _ zT _ _ _ _ _ _ _ _ _ _ _ _ _ _ _ _ _ _ _ _ _ A L F hS hF=>?_
   have q1:fo zT (bJ zJ kd 8) (Int.ofNat 1)=false:=(hS.eq _ _).trans (decide_eq_false fun h=>absurd ((hS.rem _ _).symm.trans h) (by rw[hk];decide));have q2:fo zT (bJ zJ kd 8) (Int.ofNat 2)=false:=(hS.eq _ _).trans (decide_eq_false fun h=>absurd ((hS.rem _ _).symm.trans h) (by rw[hk];decide));have q3:fo zT (bJ zJ kd 8) (Int.ofNat 3)=false:=(hS.eq _ _).trans (decide_eq_false fun h=>absurd ((hS.rem _ _).symm.trans h) (by rw[hk];decide))
   have q4:fo zT (bJ zJ kd 8) (Int.ofNat 4)=false:=(hS.eq _ _).trans (decide_eq_false fun h=>absurd ((hS.rem _ _).symm.trans h) (by rw[hk];decide));have q5:fo zT (bJ zJ kd 8) (Int.ofNat 5)=false:=(hS.eq _ _).trans (decide_eq_false fun h=>absurd ((hS.rem _ _).symm.trans h) (by rw[hk];decide));have q6:fo zT (bJ zJ kd 8) (Int.ofNat 6)=false:=(hS.eq _ _).trans (decide_eq_false fun h=>absurd ((hS.rem _ _).symm.trans h) (by rw[hk];decide))
   have q7:fo zT (bJ zJ kd 8) (Int.ofNat 7)=false:=(hS.eq _ _).trans (decide_eq_false fun h=>absurd ((hS.rem _ _).symm.trans h) (by rw[hk];decide));cbv;repeat (first|apply bT rfl|apply bF rfl|apply nd rfl|(refine tT rfl ?_;cbv)|(refine tF rfl ?_;cbv))
   refine tF q1 ?_;cbv;repeat (first|apply bT rfl|apply bF rfl|apply nd rfl|(refine tT rfl ?_;cbv)|(refine tF rfl ?_;cbv))
   refine tF q2 ?_;cbv;repeat (first|apply bT rfl|apply bF rfl|apply nd rfl|(refine tT rfl ?_;cbv)|(refine tF rfl ?_;cbv))
   refine tF q3 ?_;cbv;repeat (first|apply bT rfl|apply bF rfl|apply nd rfl|(refine tT rfl ?_;cbv)|(refine tF rfl ?_;cbv))
   refine tF q4 ?_;cbv;repeat (first|apply bT rfl|apply bF rfl|apply nd rfl|(refine tT rfl ?_;cbv)|(refine tF rfl ?_;cbv))
   refine tF q5 ?_;cbv;repeat (first|apply bT rfl|apply bF rfl|apply nd rfl|(refine tT rfl ?_;cbv)|(refine tF rfl ?_;cbv))
   refine tF q6 ?_;cbv;repeat (first|apply bT rfl|apply bF rfl|apply nd rfl|(refine tT rfl ?_;cbv)|(refine tF rfl ?_;cbv))
   refine tF q7 ?_;cbv;repeat (first|apply bT rfl|apply bF rfl|apply nd rfl|(refine tT rfl ?_;cbv)|(refine tF rfl ?_;cbv))
   refine⟨_,hS.call hv,?_⟩;cbv;cases b with
   | true=>
    repeat (first|apply bT rfl|apply bF rfl|apply nd rfl|(refine tT rfl ?_;cbv)|(refine tF rfl ?_;cbv))
    exact hF _ (ak.refl _)
   | false=>
    repeat (first|apply bT rfl|apply bF rfl|apply nd rfl|(refine tT rfl ?_;cbv)|(refine tF rfl ?_;cbv))
    exact hF _ (ak.refl _)
end Go.Proofs.YtekefilngojelaaGreat
end
