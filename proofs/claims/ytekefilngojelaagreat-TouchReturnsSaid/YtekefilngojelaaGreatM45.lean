/- A part of the proof. -/
import Derived.Test.YtekefilngojelaaGreatM43
set_option maxHeartbeats 0
set_option maxRecDepth 100000
set_option linter.unusedVariables false
set_option linter.unusedSimpArgs false
section
namespace Go.Proofs.YtekefilngojelaaGreat
open Go Go.Abs Go.Abs.M Go.Proofs
theorem IQ (N kd fF:Int) (E D:List (List T2)) (hE:E.length<=3) (hD:D.length<=2) (p:List T2) (hk:kd.tmod 8=6) (b:Bool)
  (hv:ah Tryz.prog 34 [.val (.agg [.v (.int .i64 N),.aa false (an E),.aa false []])] ⟨[.val (tb b)],[none]⟩) :
  ah Tryz.prog 10 [.val (.agg [.v (.int .i64 N),.aa false (an E),.aa false (an D)]),.val (ti .u8 kd),.val (ti .u8 fF),.val (tl (aV p))] ⟨[.val (.agg (if b=true then [.v (.int .i64 N),.aa false (an E),.aa false []] else [.v (.int .i64 N),.aa false (an E),.aa false (an D)]))],[none,none,none,none]⟩:=by
 obtain rfl|⟨d0,rfl⟩|⟨d0,d1,rfl⟩:=Sc hD
 all_goals
  obtain rfl|⟨e0,rfl⟩|⟨e0,e1,rfl⟩|⟨e0,e1,e2,rfl⟩:=Sd hE
  all_goals as_aux_lemma=>
   simp only[an,List.map_cons,List.map_nil,List.cons_append,List.nil_append,List.length_cons,List.length_nil]at hv ⊢;generalize aV=T at *;refine ep aj mixed [.val] Tryz.func10 rfl rfl (by kernel_rfl) fun _ _ _ _ _ zJ _ _ _ _ _ _ zT _ _ _ _ _ _ _ _ _ _ _ _ _ _ _ _ _ _ _ _ _ A L F hS hF=>?_
   have q1:fo zT (bJ zJ kd 8) (Int.ofNat 1)=false:=(hS.eq _ _).trans (decide_eq_false fun h=>absurd ((hS.rem _ _).symm.trans h) (by rw[hk];decide));have q2:fo zT (bJ zJ kd 8) (Int.ofNat 2)=false:=(hS.eq _ _).trans (decide_eq_false fun h=>absurd ((hS.rem _ _).symm.trans h) (by rw[hk];decide));have q3:fo zT (bJ zJ kd 8) (Int.ofNat 3)=false:=(hS.eq _ _).trans (decide_eq_false fun h=>absurd ((hS.rem _ _).symm.trans h) (by rw[hk];decide))
   have q4:fo zT (bJ zJ kd 8) (Int.ofNat 4)=false:=(hS.eq _ _).trans (decide_eq_false fun h=>absurd ((hS.rem _ _).symm.trans h) (by rw[hk];decide));have q5:fo zT (bJ zJ kd 8) (Int.ofNat 5)=false:=(hS.eq _ _).trans (decide_eq_false fun h=>absurd ((hS.rem _ _).symm.trans h) (by rw[hk];decide));have q6:fo zT (bJ zJ kd 8) (Int.ofNat 6)=true:=(hS.eq _ _).trans (decide_eq_true ((hS.rem _ _).trans hk))
   have q7:fo zT (bJ zJ kd 8) (Int.ofNat 7)=false:=(hS.eq _ _).trans (decide_eq_false fun h=>absurd ((hS.rem _ _).symm.trans h) (by rw[hk];decide));cbv;repeat (first|apply bT rfl|apply bF rfl|apply nd rfl|(refine tT rfl ?_;cbv)|(refine tF rfl ?_;cbv))
   refine tF q1 ?_;cbv;repeat (first|apply bT rfl|apply bF rfl|apply nd rfl|(refine tT rfl ?_;cbv)|(refine tF rfl ?_;cbv))
   refine tF q2 ?_;cbv;repeat (first|apply bT rfl|apply bF rfl|apply nd rfl|(refine tT rfl ?_;cbv)|(refine tF rfl ?_;cbv))
   refine tF q3 ?_;cbv;repeat (first|apply bT rfl|apply bF rfl|apply nd rfl|(refine tT rfl ?_;cbv)|(refine tF rfl ?_;cbv))
   refine tF q4 ?_;cbv;repeat (first|apply bT rfl|apply bF rfl|apply nd rfl|(refine tT rfl ?_;cbv)|(refine tF rfl ?_;cbv))
   refine tF q5 ?_;cbv;repeat (first|apply bT rfl|apply bF rfl|apply nd rfl|(refine tT rfl ?_;cbv)|(refine tF rfl ?_;cbv))
   refine tT q6 ?_;cbv;repeat (first|apply bT rfl|apply bF rfl|apply nd rfl|(refine tT rfl ?_;cbv)|(refine tF rfl ?_;cbv))
   refine⟨_,hS.Rq hv ?_,?_⟩
   ·exact⟨⟨aW.refl _,aW.refl _,aW.drop _ _,trivial⟩,trivial⟩
   cbv;cases b with
   | true=>
    repeat (first|apply bT rfl|apply bF rfl|apply nd rfl|(refine tT rfl ?_;cbv)|(refine tF rfl ?_;cbv))
    exact gX hF ⟨aW.refl _,aW.refl _,aW.drop _ _,trivial⟩
   | false=>
    repeat (first|apply bT rfl|apply bF rfl|apply nd rfl|(refine tT rfl ?_;cbv)|(refine tF rfl ?_;cbv))
    exact hF _ (ak.refl _)
theorem IS (N kd fF:Int) (E D:List (List T2)) (hE:E.length<=3) (hD:D.length<=2) (p:List T2) (hk:kd.tmod 8=7) (b:Bool)
  (hv:ah Tryz.prog 34 [.val (.agg [.v (.int .i64 N),.aa false [],.aa false (an D)])] ⟨[.val (tb b)],[none]⟩) :
  ah Tryz.prog 10 [.val (.agg [.v (.int .i64 N),.aa false (an E),.aa false (an D)]),.val (ti .u8 kd),.val (ti .u8 fF),.val (tl (aV p))] ⟨[.val (.agg (if b=true then [.v (.int .i64 N),.aa false [],.aa false (an D)] else [.v (.int .i64 N),.aa false (an E),.aa false (an D)]))],[none,none,none,none]⟩:=by
 obtain rfl|⟨d0,rfl⟩|⟨d0,d1,rfl⟩:=Sc hD
 all_goals
  obtain rfl|⟨e0,rfl⟩|⟨e0,e1,rfl⟩|⟨e0,e1,e2,rfl⟩:=Sd hE
  all_goals as_aux_lemma=>
   simp only[an,List.map_cons,List.map_nil,List.cons_append,List.nil_append,List.length_cons,List.length_nil]at hv ⊢;generalize aV=T at *;refine ep aj mixed [.val] Tryz.func10 rfl rfl (by kernel_rfl) fun _ _ _ _ _ zJ _ _ _ _ _ _ zT _ _ _ _ _ _ _ _ _ _ _ _ _ _ _ _ _ _ _ _ _ A L F hS hF=>?_
   have q1:fo zT (bJ zJ kd 8) (Int.ofNat 1)=false:=(hS.eq _ _).trans (decide_eq_false fun h=>absurd ((hS.rem _ _).symm.trans h) (by rw[hk];decide));have q2:fo zT (bJ zJ kd 8) (Int.ofNat 2)=false:=(hS.eq _ _).trans (decide_eq_false fun h=>absurd ((hS.rem _ _).symm.trans h) (by rw[hk];decide));have q3:fo zT (bJ zJ kd 8) (Int.ofNat 3)=false:=(hS.eq _ _).trans (decide_eq_false fun h=>absurd ((hS.rem _ _).symm.trans h) (by rw[hk];decide))
   have q4:fo zT (bJ zJ kd 8) (Int.ofNat 4)=false:=(hS.eq _ _).trans (decide_eq_false fun h=>absurd ((hS.rem _ _).symm.trans h) (by rw[hk];decide));have q5:fo zT (bJ zJ kd 8) (Int.ofNat 5)=false:=(hS.eq _ _).trans (decide_eq_false fun h=>absurd ((hS.rem _ _).symm.trans h) (by rw[hk];decide));have q6:fo zT (bJ zJ kd 8) (Int.ofNat 6)=false:=(hS.eq _ _).trans (decide_eq_false fun h=>absurd ((hS.rem _ _).symm.trans h) (by rw[hk];decide))
   have q7:fo zT (bJ zJ kd 8) (Int.ofNat 7)=true:=(hS.eq _ _).trans (decide_eq_true ((hS.rem _ _).trans hk));cbv;repeat (first|apply bT rfl|apply bF rfl|apply nd rfl|(refine tT rfl ?_;cbv)|(refine tF rfl ?_;cbv))
   refine tF q1 ?_;cbv;repeat (first|apply bT rfl|apply bF rfl|apply nd rfl|(refine tT rfl ?_;cbv)|(refine tF rfl ?_;cbv))
   refine tF q2 ?_;cbv;repeat (first|apply bT rfl|apply bF rfl|apply nd rfl|(refine tT rfl ?_;cbv)|(refine tF rfl ?_;cbv))
   refine tF q3 ?_;cbv;repeat (first|apply bT rfl|apply bF rfl|apply nd rfl|(refine tT rfl ?_;cbv)|(refine tF rfl ?_;cbv))
   refine tF q4 ?_;cbv;repeat (first|apply bT rfl|apply bF rfl|apply nd rfl|(refine tT rfl ?_;cbv)|(refine tF rfl ?_;cbv))
   refine tF q5 ?_;cbv;repeat (first|apply bT rfl|apply bF rfl|apply nd rfl|(refine tT rfl ?_;cbv)|(refine tF rfl ?_;cbv))
   refine tF q6 ?_;cbv;repeat (first|apply bT rfl|apply bF rfl|apply nd rfl|(refine tT rfl ?_;cbv)|(refine tF rfl ?_;cbv))
   refine tT q7 ?_;cbv;repeat (first|apply bT rfl|apply bF rfl|apply nd rfl|(refine tT rfl ?_;cbv)|(refine tF rfl ?_;cbv))
   refine⟨_,hS.Rq hv ?_,?_⟩
   ·exact⟨⟨aW.refl _,aW.drop _ _,aW.refl _,trivial⟩,trivial⟩
   cbv;cases b with
   | true=>
    repeat (first|apply bT rfl|apply bF rfl|apply nd rfl|(refine tT rfl ?_;cbv)|(refine tF rfl ?_;cbv))
    exact gX hF ⟨aW.refl _,aW.drop _ _,aW.refl _,trivial⟩
   | false=>
    repeat (first|apply bT rfl|apply bF rfl|apply nd rfl|(refine tT rfl ?_;cbv)|(refine tF rfl ?_;cbv))
    exact hF _ (ak.refl _)
theorem IT (N kd fF:Int) (E D:List (List T2)) (hE:E.length<=3) (hD:D.length<=2) (p:List T2) (hk:kd.tmod 8=4) (M:Int) (hM:M=1+fF.tmod 4) (h0:0<=fF/\fF<256) (b:Bool)
  (hv:ah Tryz.prog 34 [.val (.agg [.v (.int .i64 M),.aa false (an E),.aa false (an D)])] ⟨[.val (tb b)],[none]⟩) :
  ah Tryz.prog 10 [.val (.agg [.v (.int .i64 N),.aa false (an E),.aa false (an D)]),.val (ti .u8 kd),.val (ti .u8 fF),.val (tl (aV p))] ⟨[.val (.agg (if b=true then [.v (.int .i64 M),.aa false (an E),.aa false (an D)] else [.v (.int .i64 N),.aa false (an E),.aa false (an D)]))],[none,none,none,none]⟩:=by
 obtain rfl|⟨d0,rfl⟩|⟨d0,d1,rfl⟩:=Sc hD
 all_goals
  obtain rfl|⟨e0,rfl⟩|⟨e0,e1,rfl⟩|⟨e0,e1,e2,rfl⟩:=Sd hE
  all_goals as_aux_lemma=>
   simp only[an,List.map_cons,List.map_nil,List.cons_append,List.nil_append,List.length_cons,List.length_nil]at hv ⊢;generalize aV=T at *;refine ep aj mixed [.val] Tryz.func10 rfl rfl (by kernel_rfl) fun zD zE _ _ _ zJ _ _ _ _ _ _ zT _ _ _ _ _ _ _ _ _ _ _ _ _ _ _ _ _ _ _ _ _ A L F hS hF=>?_
   have q1:fo zT (bJ zJ kd 8) (Int.ofNat 1)=false:=(hS.eq _ _).trans (decide_eq_false fun h=>absurd ((hS.rem _ _).symm.trans h) (by rw[hk];decide));have q2:fo zT (bJ zJ kd 8) (Int.ofNat 2)=false:=(hS.eq _ _).trans (decide_eq_false fun h=>absurd ((hS.rem _ _).symm.trans h) (by rw[hk];decide));have q3:fo zT (bJ zJ kd 8) (Int.ofNat 3)=false:=(hS.eq _ _).trans (decide_eq_false fun h=>absurd ((hS.rem _ _).symm.trans h) (by rw[hk];decide))
   have q4:fo zT (bJ zJ kd 8) (Int.ofNat 4)=true:=(hS.eq _ _).trans (decide_eq_true ((hS.rem _ _).trans hk));have q5:fo zT (bJ zJ kd 8) (Int.ofNat 5)=false:=(hS.eq _ _).trans (decide_eq_false fun h=>absurd ((hS.rem _ _).symm.trans h) (by rw[hk];decide));have q6:fo zT (bJ zJ kd 8) (Int.ofNat 6)=false:=(hS.eq _ _).trans (decide_eq_false fun h=>absurd ((hS.rem _ _).symm.trans h) (by rw[hk];decide))
   have q7:fo zT (bJ zJ kd 8) (Int.ofNat 7)=false:=(hS.eq _ _).trans (decide_eq_false fun h=>absurd ((hS.rem _ _).symm.trans h) (by rw[hk];decide));have eM:aA zD .i64 (dU zE 1 (aA zD .i64 (bJ zJ fF 4)))=M:=by
    have h4:fF.tmod 4=fF%4:=Int.tmod_eq_emod_of_nonneg h0.1;have e1:aA zD .i64 (bJ zJ fF 4)=fF.tmod 4:=by rw[hS.rem,hS.wrap];exact wrap_i64 (by omega) (by omega)
    rw[e1,hS.add,hS.wrap,hM];exact wrap_i64 (by omega) (by omega)
   rw[<-eM]at hv hF;cbv;repeat (first|apply bT rfl|apply bF rfl|apply nd rfl|(refine tT rfl ?_;cbv)|(refine tF rfl ?_;cbv))
   refine tF q1 ?_;cbv;repeat (first|apply bT rfl|apply bF rfl|apply nd rfl|(refine tT rfl ?_;cbv)|(refine tF rfl ?_;cbv))
   refine tF q2 ?_;cbv;repeat (first|apply bT rfl|apply bF rfl|apply nd rfl|(refine tT rfl ?_;cbv)|(refine tF rfl ?_;cbv))
   refine tF q3 ?_;cbv;repeat (first|apply bT rfl|apply bF rfl|apply nd rfl|(refine tT rfl ?_;cbv)|(refine tF rfl ?_;cbv))
   refine tT q4 ?_;cbv;repeat (first|apply bT rfl|apply bF rfl|apply nd rfl|(refine tT rfl ?_;cbv)|(refine tF rfl ?_;cbv))
   refine⟨_,hS.call hv,?_⟩;cbv;cases b with
   | true=>
    repeat (first|apply bT rfl|apply bF rfl|apply nd rfl|(refine tT rfl ?_;cbv)|(refine tF rfl ?_;cbv))
    exact hF _ (ak.refl _)
   | false=>
    repeat (first|apply bT rfl|apply bF rfl|apply nd rfl|(refine tT rfl ?_;cbv)|(refine tF rfl ?_;cbv))
    exact hF _ (ak.refl _)
end Go.Proofs.YtekefilngojelaaGreat
end
