/- A part. -/
import Derived.Test.YtekefilngojelaaGreatM41
set_option maxHeartbeats 0
set_option maxRecDepth 100000
set_option linter.unusedVariables false
set_option linter.unusedSimpArgs false
section
namespace Go.Proofs.YtekefilngojelaaGreat
open Go Go.Abs Go.Abs.M Go.Proofs
theorem Ix (N kd fK:Int) (E D:aS) (hE:E.length<=3) (hD:D.length<=2) (p:List T2) (hk:kd.tmod 8=6) (b:Bool)
  (hv:aH 34 [.val (.agg [.v (.int .i64 N),.aa false (aj E),.aa false []])] ⟨[.val (tb b)],[none]⟩) :
  aH 10 [.val (.agg [.v (.int .i64 N),.aa false (aj E),.aa false (aj D)]),.val (ti .u8 kd),.val (ti .u8 fK),.val (tl (aP p))] ⟨[.val (.agg (if b=true then [.v (.int .i64 N),.aa false (aj E),.aa false []] else [.v (.int .i64 N),.aa false (aj E),.aa false (aj D)]))],[none,none,none,none]⟩:=by
 obtain rfl|⟨d0,rfl⟩|⟨d0,d1,rfl⟩:=RH hD
 all_goals
  obtain rfl|⟨e0,rfl⟩|⟨e0,e1,rfl⟩|⟨e0,e1,e2,rfl⟩:=RJ hE
  all_goals as_aux_lemma=>
   simp only[aj,List.map_cons,List.map_nil,List.cons_append,List.nil_append,List.length_cons,List.length_nil]at hv ⊢;generalize aP=T at *;refine fb ai mixed [.val] Tryz.func10 rfl rfl (by kernel_rfl) fun _ _ _ _ _ zJ _ _ _ _ _ _ zT _ _ _ _ _ _ _ _ _ _ _ _ _ _ _ _ _ _ _ _ _ A L F hS hF=>?_
   have q1:fA zT (bP zJ kd 8) (Int.ofNat 1)=false:=(hS.eq _ _).trans (decide_eq_false fun h=>absurd ((hS.rem _ _).symm.trans h) (by rw[hk];decide));have q2:fA zT (bP zJ kd 8) (Int.ofNat 2)=false:=(hS.eq _ _).trans (decide_eq_false fun h=>absurd ((hS.rem _ _).symm.trans h) (by rw[hk];decide));have q3:fA zT (bP zJ kd 8) (Int.ofNat 3)=false:=(hS.eq _ _).trans (decide_eq_false fun h=>absurd ((hS.rem _ _).symm.trans h) (by rw[hk];decide))
   have q4:fA zT (bP zJ kd 8) (Int.ofNat 4)=false:=(hS.eq _ _).trans (decide_eq_false fun h=>absurd ((hS.rem _ _).symm.trans h) (by rw[hk];decide));have q5:fA zT (bP zJ kd 8) (Int.ofNat 5)=false:=(hS.eq _ _).trans (decide_eq_false fun h=>absurd ((hS.rem _ _).symm.trans h) (by rw[hk];decide));have q6:fA zT (bP zJ kd 8) (Int.ofNat 6)=true:=(hS.eq _ _).trans (decide_eq_true ((hS.rem _ _).trans hk))
   have q7:fA zT (bP zJ kd 8) (Int.ofNat 7)=false:=(hS.eq _ _).trans (decide_eq_false fun h=>absurd ((hS.rem _ _).symm.trans h) (by rw[hk];decide));cbv;repeat (first|apply bT rfl|apply bF rfl|apply nd rfl|(apply tT rfl;cbv)|(apply tF rfl;cbv))
   apply tF q1;cbv;repeat (first|apply bT rfl|apply bF rfl|apply nd rfl|(apply tT rfl;cbv)|(apply tF rfl;cbv))
   apply tF q2;cbv;repeat (first|apply bT rfl|apply bF rfl|apply nd rfl|(apply tT rfl;cbv)|(apply tF rfl;cbv))
   apply tF q3;cbv;repeat (first|apply bT rfl|apply bF rfl|apply nd rfl|(apply tT rfl;cbv)|(apply tF rfl;cbv))
   apply tF q4;cbv;repeat (first|apply bT rfl|apply bF rfl|apply nd rfl|(apply tT rfl;cbv)|(apply tF rfl;cbv))
   apply tF q5;cbv;repeat (first|apply bT rfl|apply bF rfl|apply nd rfl|(apply tT rfl;cbv)|(apply tF rfl;cbv))
   apply tT q6;cbv;repeat (first|apply bT rfl|apply bF rfl|apply nd rfl|(apply tT rfl;cbv)|(apply tF rfl;cbv))
   refine⟨_,hS.Q2 hv ?_,?_⟩
   ·exact⟨⟨aY.refl _,aY.refl _,aY.drop _ _,trivial⟩,trivial⟩
   cbv;cases b with
   | true=>
    repeat (first|apply bT rfl|apply bF rfl|apply nd rfl|(apply tT rfl;cbv)|(apply tF rfl;cbv))
    exact ib hF ⟨aY.refl _,aY.refl _,aY.drop _ _,trivial⟩
   | false=>
    repeat (first|apply bT rfl|apply bF rfl|apply nd rfl|(apply tT rfl;cbv)|(apply tF rfl;cbv))
    exact aC hF
theorem Iy (N kd fK:Int) (E D:aS) (hE:E.length<=3) (hD:D.length<=2) (p:List T2) (hk:kd.tmod 8=7) (b:Bool)
  (hv:aH 34 [.val (.agg [.v (.int .i64 N),.aa false [],.aa false (aj D)])] ⟨[.val (tb b)],[none]⟩) :
  aH 10 [.val (.agg [.v (.int .i64 N),.aa false (aj E),.aa false (aj D)]),.val (ti .u8 kd),.val (ti .u8 fK),.val (tl (aP p))] ⟨[.val (.agg (if b=true then [.v (.int .i64 N),.aa false [],.aa false (aj D)] else [.v (.int .i64 N),.aa false (aj E),.aa false (aj D)]))],[none,none,none,none]⟩:=by
 obtain rfl|⟨d0,rfl⟩|⟨d0,d1,rfl⟩:=RH hD
 all_goals
  obtain rfl|⟨e0,rfl⟩|⟨e0,e1,rfl⟩|⟨e0,e1,e2,rfl⟩:=RJ hE
  all_goals as_aux_lemma=>
   simp only[aj,List.map_cons,List.map_nil,List.cons_append,List.nil_append,List.length_cons,List.length_nil]at hv ⊢;generalize aP=T at *;refine fb ai mixed [.val] Tryz.func10 rfl rfl (by kernel_rfl) fun _ _ _ _ _ zJ _ _ _ _ _ _ zT _ _ _ _ _ _ _ _ _ _ _ _ _ _ _ _ _ _ _ _ _ A L F hS hF=>?_
   have q1:fA zT (bP zJ kd 8) (Int.ofNat 1)=false:=(hS.eq _ _).trans (decide_eq_false fun h=>absurd ((hS.rem _ _).symm.trans h) (by rw[hk];decide));have q2:fA zT (bP zJ kd 8) (Int.ofNat 2)=false:=(hS.eq _ _).trans (decide_eq_false fun h=>absurd ((hS.rem _ _).symm.trans h) (by rw[hk];decide));have q3:fA zT (bP zJ kd 8) (Int.ofNat 3)=false:=(hS.eq _ _).trans (decide_eq_false fun h=>absurd ((hS.rem _ _).symm.trans h) (by rw[hk];decide))
   have q4:fA zT (bP zJ kd 8) (Int.ofNat 4)=false:=(hS.eq _ _).trans (decide_eq_false fun h=>absurd ((hS.rem _ _).symm.trans h) (by rw[hk];decide));have q5:fA zT (bP zJ kd 8) (Int.ofNat 5)=false:=(hS.eq _ _).trans (decide_eq_false fun h=>absurd ((hS.rem _ _).symm.trans h) (by rw[hk];decide));have q6:fA zT (bP zJ kd 8) (Int.ofNat 6)=false:=(hS.eq _ _).trans (decide_eq_false fun h=>absurd ((hS.rem _ _).symm.trans h) (by rw[hk];decide))
   have q7:fA zT (bP zJ kd 8) (Int.ofNat 7)=true:=(hS.eq _ _).trans (decide_eq_true ((hS.rem _ _).trans hk));cbv;repeat (first|apply bT rfl|apply bF rfl|apply nd rfl|(apply tT rfl;cbv)|(apply tF rfl;cbv))
   apply tF q1;cbv;repeat (first|apply bT rfl|apply bF rfl|apply nd rfl|(apply tT rfl;cbv)|(apply tF rfl;cbv))
   apply tF q2;cbv;repeat (first|apply bT rfl|apply bF rfl|apply nd rfl|(apply tT rfl;cbv)|(apply tF rfl;cbv))
   apply tF q3;cbv;repeat (first|apply bT rfl|apply bF rfl|apply nd rfl|(apply tT rfl;cbv)|(apply tF rfl;cbv))
   apply tF q4;cbv;repeat (first|apply bT rfl|apply bF rfl|apply nd rfl|(apply tT rfl;cbv)|(apply tF rfl;cbv))
   apply tF q5;cbv;repeat (first|apply bT rfl|apply bF rfl|apply nd rfl|(apply tT rfl;cbv)|(apply tF rfl;cbv))
   apply tF q6;cbv;repeat (first|apply bT rfl|apply bF rfl|apply nd rfl|(apply tT rfl;cbv)|(apply tF rfl;cbv))
   apply tT q7;cbv;repeat (first|apply bT rfl|apply bF rfl|apply nd rfl|(apply tT rfl;cbv)|(apply tF rfl;cbv))
   refine⟨_,hS.Q2 hv ?_,?_⟩
   ·exact⟨⟨aY.refl _,aY.drop _ _,aY.refl _,trivial⟩,trivial⟩
   cbv;cases b with
   | true=>
    repeat (first|apply bT rfl|apply bF rfl|apply nd rfl|(apply tT rfl;cbv)|(apply tF rfl;cbv))
    exact ib hF ⟨aY.refl _,aY.drop _ _,aY.refl _,trivial⟩
   | false=>
    repeat (first|apply bT rfl|apply bF rfl|apply nd rfl|(apply tT rfl;cbv)|(apply tF rfl;cbv))
    exact aC hF
theorem IA (N kd fK:Int) (E D:aS) (hE:E.length<=3) (hD:D.length<=2) (p:List T2) (hk:kd.tmod 8=4) (M:Int) (hM:M=1+fK.tmod 4) (h0:0<=fK/\fK<256) (b:Bool)
  (hv:aH 34 [.val (.agg [.v (.int .i64 M),.aa false (aj E),.aa false (aj D)])] ⟨[.val (tb b)],[none]⟩) :
  aH 10 [.val (.agg [.v (.int .i64 N),.aa false (aj E),.aa false (aj D)]),.val (ti .u8 kd),.val (ti .u8 fK),.val (tl (aP p))] ⟨[.val (.agg (if b=true then [.v (.int .i64 M),.aa false (aj E),.aa false (aj D)] else [.v (.int .i64 N),.aa false (aj E),.aa false (aj D)]))],[none,none,none,none]⟩:=by
 obtain rfl|⟨d0,rfl⟩|⟨d0,d1,rfl⟩:=RH hD
 all_goals
  obtain rfl|⟨e0,rfl⟩|⟨e0,e1,rfl⟩|⟨e0,e1,e2,rfl⟩:=RJ hE
  all_goals as_aux_lemma=>
   simp only[aj,List.map_cons,List.map_nil,List.cons_append,List.nil_append,List.length_cons,List.length_nil]at hv ⊢;generalize aP=T at *;refine fb ai mixed [.val] Tryz.func10 rfl rfl (by kernel_rfl) fun zD zE _ _ _ zJ _ _ _ _ _ _ zT _ _ _ _ _ _ _ _ _ _ _ _ _ _ _ _ _ _ _ _ _ A L F hS hF=>?_
   have q1:fA zT (bP zJ kd 8) (Int.ofNat 1)=false:=(hS.eq _ _).trans (decide_eq_false fun h=>absurd ((hS.rem _ _).symm.trans h) (by rw[hk];decide));have q2:fA zT (bP zJ kd 8) (Int.ofNat 2)=false:=(hS.eq _ _).trans (decide_eq_false fun h=>absurd ((hS.rem _ _).symm.trans h) (by rw[hk];decide));have q3:fA zT (bP zJ kd 8) (Int.ofNat 3)=false:=(hS.eq _ _).trans (decide_eq_false fun h=>absurd ((hS.rem _ _).symm.trans h) (by rw[hk];decide))
   have q4:fA zT (bP zJ kd 8) (Int.ofNat 4)=true:=(hS.eq _ _).trans (decide_eq_true ((hS.rem _ _).trans hk));have q5:fA zT (bP zJ kd 8) (Int.ofNat 5)=false:=(hS.eq _ _).trans (decide_eq_false fun h=>absurd ((hS.rem _ _).symm.trans h) (by rw[hk];decide));have q6:fA zT (bP zJ kd 8) (Int.ofNat 6)=false:=(hS.eq _ _).trans (decide_eq_false fun h=>absurd ((hS.rem _ _).symm.trans h) (by rw[hk];decide))
   have q7:fA zT (bP zJ kd 8) (Int.ofNat 7)=false:=(hS.eq _ _).trans (decide_eq_false fun h=>absurd ((hS.rem _ _).symm.trans h) (by rw[hk];decide));have eM:aE zD .i64 (eE zE 1 (aE zD .i64 (bP zJ fK 4)))=M:=by
    have h4:fK.tmod 4=fK%4:=Int.tmod_eq_emod_of_nonneg h0.1;have e1:aE zD .i64 (bP zJ fK 4)=fK.tmod 4:=by rw[hS.rem,hS.wrap];exact wrap_i64 (by omega) (by omega)
    rw[e1,hS.add,hS.wrap,hM];exact wrap_i64 (by omega) (by omega)
   rw[<-eM]at hv hF;cbv;repeat (first|apply bT rfl|apply bF rfl|apply nd rfl|(apply tT rfl;cbv)|(apply tF rfl;cbv))
   apply tF q1;cbv;repeat (first|apply bT rfl|apply bF rfl|apply nd rfl|(apply tT rfl;cbv)|(apply tF rfl;cbv))
   apply tF q2;cbv;repeat (first|apply bT rfl|apply bF rfl|apply nd rfl|(apply tT rfl;cbv)|(apply tF rfl;cbv))
   apply tF q3;cbv;repeat (first|apply bT rfl|apply bF rfl|apply nd rfl|(apply tT rfl;cbv)|(apply tF rfl;cbv))
   apply tT q4;cbv;repeat (first|apply bT rfl|apply bF rfl|apply nd rfl|(apply tT rfl;cbv)|(apply tF rfl;cbv))
   refine hS.cl hv ?_;cbv;cases b with
   | true=>
    repeat (first|apply bT rfl|apply bF rfl|apply nd rfl|(apply tT rfl;cbv)|(apply tF rfl;cbv))
    exact aC hF
   | false=>
    repeat (first|apply bT rfl|apply bF rfl|apply nd rfl|(apply tT rfl;cbv)|(apply tF rfl;cbv))
    exact aC hF
end Go.Proofs.YtekefilngojelaaGreat
end
