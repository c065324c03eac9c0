/- A part. -/
import Derived.Test.YtekefilngojelaaGreatM41
set_option maxHeartbeats 0
set_option maxRecDepth 100000
set_option linter.unusedVariables false
set_option linter.unusedSimpArgs false
section
namespace Go.Proofs.YtekefilngojelaaGreat
open Go Go.Abs Go.Abs.M Go.Proofs
theorem Iv (N kd fK:Int) (E D:aS) (hE:E.length<=3) (hD:D.length<=2) (p:List T2) (hk:kd.tmod 8=1) (YE:aS) (hs:aH 26 [.val (tl (aj (E ++ [p]))),.val (tb false)] ⟨[.val (tl (aj YE))],[none,none]⟩) (b:Bool)
  (hv:aH 34 [.val (.agg [.v (.int .i64 N),.aa false (aj YE),.aa false (aj D)])] ⟨[.val (tb b)],[none]⟩) :
  aH 10 [.val (.agg [.v (.int .i64 N),.aa false (aj E),.aa false (aj D)]),.val (ti .u8 kd),.val (ti .u8 fK),.val (tl (aP p))] ⟨[.val (.agg (if b=true then [.v (.int .i64 N),.aa false (aj YE),.aa false (aj D)] else [.v (.int .i64 N),.aa false (aj E),.aa false (aj D)]))],[none,none,none,none]⟩:=by
 obtain rfl|⟨d0,rfl⟩|⟨d0,d1,rfl⟩:=RH hD
 all_goals
  obtain rfl|⟨e0,rfl⟩|⟨e0,e1,rfl⟩|⟨e0,e1,e2,rfl⟩:=RJ hE
  all_goals as_aux_lemma=>
   simp only[aj,List.map_cons,List.map_nil,List.cons_append,List.nil_append,List.length_cons,List.length_nil]at hv hs ⊢;generalize YE.map (fun p=>[Tree.aa false (aP p)])=XY at *;generalize aP=T at *;refine fb ai mixed [.val] Tryz.func10 rfl rfl (by kernel_rfl) fun _ _ _ _ _ zJ _ _ _ _ _ _ zT _ _ _ _ _ _ _ _ _ _ _ _ _ _ _ _ _ _ _ _ _ A L F hS hF=>?_
   have q1:fA zT (bP zJ kd 8) (Int.ofNat 1)=true:=(hS.eq _ _).trans (decide_eq_true ((hS.rem _ _).trans hk));have q2:fA zT (bP zJ kd 8) (Int.ofNat 2)=false:=(hS.eq _ _).trans (decide_eq_false fun h=>absurd ((hS.rem _ _).symm.trans h) (by rw[hk];decide));have q3:fA zT (bP zJ kd 8) (Int.ofNat 3)=false:=(hS.eq _ _).trans (decide_eq_false fun h=>absurd ((hS.rem _ _).symm.trans h) (by rw[hk];decide))
   have q4:fA zT (bP zJ kd 8) (Int.ofNat 4)=false:=(hS.eq _ _).trans (decide_eq_false fun h=>absurd ((hS.rem _ _).symm.trans h) (by rw[hk];decide));have q5:fA zT (bP zJ kd 8) (Int.ofNat 5)=false:=(hS.eq _ _).trans (decide_eq_false fun h=>absurd ((hS.rem _ _).symm.trans h) (by rw[hk];decide));have q6:fA zT (bP zJ kd 8) (Int.ofNat 6)=false:=(hS.eq _ _).trans (decide_eq_false fun h=>absurd ((hS.rem _ _).symm.trans h) (by rw[hk];decide))
   have q7:fA zT (bP zJ kd 8) (Int.ofNat 7)=false:=(hS.eq _ _).trans (decide_eq_false fun h=>absurd ((hS.rem _ _).symm.trans h) (by rw[hk];decide));cbv;repeat (first|apply bT rfl|apply bF rfl|apply nd rfl|(apply tT rfl;cbv)|(apply tF rfl;cbv))
   apply tT q1;cbv;repeat (first|apply bT rfl|apply bF rfl|apply nd rfl|(apply tT rfl;cbv)|(apply tF rfl;cbv)|(refine hS.cl hs ?_;cbv)|(refine hS.cl hv ?_;cbv))
   cases b with
   | true=>
    repeat (first|apply bT rfl|apply bF rfl|apply nd rfl|(apply tT rfl;cbv)|(apply tF rfl;cbv))
    exact aC hF
   | false=>
    repeat (first|apply bT rfl|apply bF rfl|apply nd rfl|(apply tT rfl;cbv)|(apply tF rfl;cbv))
    exact aC hF
theorem Iw (N kd fK:Int) (E D:aS) (hE:E.length<=3) (hD:D.length<=2) (p:List T2) (hk:kd.tmod 8=3) (YD:aS) (hs:aH 26 [.val (tl (aj (D ++ [p]))),.val (tb true)] ⟨[.val (tl (aj YD))],[none,none]⟩) (b:Bool)
  (hv:aH 34 [.val (.agg [.v (.int .i64 N),.aa false (aj E),.aa false (aj YD)])] ⟨[.val (tb b)],[none]⟩) :
  aH 10 [.val (.agg [.v (.int .i64 N),.aa false (aj E),.aa false (aj D)]),.val (ti .u8 kd),.val (ti .u8 fK),.val (tl (aP p))] ⟨[.val (.agg (if b=true then [.v (.int .i64 N),.aa false (aj E),.aa false (aj YD)] else [.v (.int .i64 N),.aa false (aj E),.aa false (aj D)]))],[none,none,none,none]⟩:=by
 obtain rfl|⟨d0,rfl⟩|⟨d0,d1,rfl⟩:=RH hD
 all_goals
  obtain rfl|⟨e0,rfl⟩|⟨e0,e1,rfl⟩|⟨e0,e1,e2,rfl⟩:=RJ hE
  all_goals as_aux_lemma=>
   simp only[aj,List.map_cons,List.map_nil,List.cons_append,List.nil_append,List.length_cons,List.length_nil]at hv hs ⊢;generalize YD.map (fun p=>[Tree.aa false (aP p)])=XY at *;generalize aP=T at *;refine fb ai mixed [.val] Tryz.func10 rfl rfl (by kernel_rfl) fun _ _ _ _ _ zJ _ _ _ _ _ _ zT _ _ _ _ _ _ _ _ _ _ _ _ _ _ _ _ _ _ _ _ _ A L F hS hF=>?_
   have q1:fA zT (bP zJ kd 8) (Int.ofNat 1)=false:=(hS.eq _ _).trans (decide_eq_false fun h=>absurd ((hS.rem _ _).symm.trans h) (by rw[hk];decide));have q2:fA zT (bP zJ kd 8) (Int.ofNat 2)=false:=(hS.eq _ _).trans (decide_eq_false fun h=>absurd ((hS.rem _ _).symm.trans h) (by rw[hk];decide));have q3:fA zT (bP zJ kd 8) (Int.ofNat 3)=true:=(hS.eq _ _).trans (decide_eq_true ((hS.rem _ _).trans hk))
   have q4:fA zT (bP zJ kd 8) (Int.ofNat 4)=false:=(hS.eq _ _).trans (decide_eq_false fun h=>absurd ((hS.rem _ _).symm.trans h) (by rw[hk];decide));have q5:fA zT (bP zJ kd 8) (Int.ofNat 5)=false:=(hS.eq _ _).trans (decide_eq_false fun h=>absurd ((hS.rem _ _).symm.trans h) (by rw[hk];decide));have q6:fA zT (bP zJ kd 8) (Int.ofNat 6)=false:=(hS.eq _ _).trans (decide_eq_false fun h=>absurd ((hS.rem _ _).symm.trans h) (by rw[hk];decide))
   have q7:fA zT (bP zJ kd 8) (Int.ofNat 7)=false:=(hS.eq _ _).trans (decide_eq_false fun h=>absurd ((hS.rem _ _).symm.trans h) (by rw[hk];decide));cbv;repeat (first|apply bT rfl|apply bF rfl|apply nd rfl|(apply tT rfl;cbv)|(apply tF rfl;cbv))
   apply tF q1;cbv;repeat (first|apply bT rfl|apply bF rfl|apply nd rfl|(apply tT rfl;cbv)|(apply tF rfl;cbv))
   apply tF q2;cbv;repeat (first|apply bT rfl|apply bF rfl|apply nd rfl|(apply tT rfl;cbv)|(apply tF rfl;cbv))
   apply tT q3;cbv;repeat (first|apply bT rfl|apply bF rfl|apply nd rfl|(apply tT rfl;cbv)|(apply tF rfl;cbv)|(refine hS.cl hs ?_;cbv)|(refine hS.cl hv ?_;cbv))
   cases b with
   | true=>
    repeat (first|apply bT rfl|apply bF rfl|apply nd rfl|(apply tT rfl;cbv)|(apply tF rfl;cbv))
    exact aC hF
   | false=>
    repeat (first|apply bT rfl|apply bF rfl|apply nd rfl|(apply tT rfl;cbv)|(apply tF rfl;cbv))
    exact aC hF
end Go.Proofs.YtekefilngojelaaGreat
end
