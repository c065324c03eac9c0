/- A part. -/
import Derived.Test.YtekefilngojelaaGreatM41
set_option maxHeartbeats 0
set_option maxRecDepth 100000
set_option linter.unusedVariables false
set_option linter.unusedSimpArgs false
section
namespace Go.Proofs.YtekefilngojelaaGreat
open Go Go.Abs Go.Abs.M Go.Proofs
theorem yh (N kd fK : Int) (E D : aS) (hE : E.length <= 3) (hD : D.length <= 2) (p : List T2) (hk : kd.tmod 8 = 5) (i : Nat) (hi : E≠[] -> fK.tmod E.length = i) (h0 : 0 <= fK /\ fK<256) (YE : aS) (hy : E = [] -> YE = []) (hs : E≠[] -> aH 26 [.val (tl (aj ([p]++E.take i++E.drop (i + 1)))), .val (tb false)] ⟨[.val (tl (aj YE))], [none, none]⟩) (b : Bool)
    (hv : aH 34 [.val (.agg [.v (.int .i64 N), .aa false (aj YE), .aa false (aj D)])] ⟨[.val (tb b)], [none]⟩) :
    aH 10 [.val (.agg [.v (.int .i64 N), .aa false (aj E), .aa false (aj D)]), .val (ti .u8 kd), .val (ti .u8 fK), .val (tl (aP p))] ⟨[.val (.agg (if b = true then [.v (.int .i64 N), .aa false (aj YE), .aa false (aj D)] else [.v (.int .i64 N), .aa false (aj E), .aa false (aj D)]))], [none, none, none, none]⟩ := by
  obtain rfl|⟨d0, rfl⟩|⟨d0, d1, rfl⟩ := RH hD
  all_goals
    by_cases he : E = []
    · subst he
      have hy := hy rfl;subst hy;clear hs hi
      as_aux_lemma=>
        simp only[aj, List.map_cons, List.map_nil, List.cons_append, List.nil_append, List.length_cons, List.length_nil, List.take, List.drop]at hv ⊢;generalize aP = T at *;refine fb ai mixed [.val] Tryz.func10 rfl rfl (by kernel_rfl) fun zD _ _ _ _ zJ _ _ _ _ _ _ zT _ _ _ _ _ _ _ _ _ _ _ _ _ _ _ _ _ _ _ _ _ A L F hS hF=> ?_
        have qn : ∀j : Int, j≠5 -> fA zT (bP zJ kd 8) j = false := fun j hj=> (hS.eq _ _).trans (decide_eq_false fun h=> hj (h.symm.trans ((hS.rem _ _).trans hk)))
        have qt : fA zT (bP zJ kd 8) 5 = true := (hS.eq _ _).trans (decide_eq_true ((hS.rem _ _).trans hk));cbv;repeat (first|apply bT rfl|apply bF rfl|apply nd rfl|(apply tT rfl;cbv)|(apply tF rfl;cbv))
        refine tF (qn 1 (by decide)) ?_;cbv;repeat (first|apply bT rfl|apply bF rfl|apply nd rfl|(apply tT rfl;cbv)|(apply tF rfl;cbv))
        refine tF (qn 2 (by decide)) ?_;cbv;repeat (first|apply bT rfl|apply bF rfl|apply nd rfl|(apply tT rfl;cbv)|(apply tF rfl;cbv))
        refine tF (qn 3 (by decide)) ?_;cbv;repeat (first|apply bT rfl|apply bF rfl|apply nd rfl|(apply tT rfl;cbv)|(apply tF rfl;cbv))
        refine tF (qn 4 (by decide)) ?_;cbv;repeat (first|apply bT rfl|apply bF rfl|apply nd rfl|(apply tT rfl;cbv)|(apply tF rfl;cbv))
        apply tT qt;cbv;repeat (first|apply bT rfl|apply bF rfl|apply nd rfl|(apply tT rfl;cbv)|(apply tF rfl;cbv))
        refine hS.cl hv ?_;cbv;cases b with
        | true=>
          repeat (first|apply bT rfl|apply bF rfl|apply nd rfl|(apply tT rfl;cbv)|(apply tF rfl;cbv))
          exact aC hF
        | false=>
          repeat (first|apply bT rfl|apply bF rfl|apply nd rfl|(apply tT rfl;cbv)|(apply tF rfl;cbv))
          exact aC hF
    · replace hi := hi he
      replace hs := hs he
      clear hy;have hb : i<E.length := by
        have h1 := Int.emod_lt_of_pos fK (show(0 : Int)<(E.length : Int) by have := List.length_pos_iff.2 he;omega);rw[Int.tmod_eq_emod_of_nonneg h0.1]at hi;omega
      obtain rfl|⟨e0, rfl⟩|⟨e0, e1, rfl⟩|⟨e0, e1, e2, rfl⟩ := RJ hE
      · exact absurd rfl he
      all_goals
        simp only[List.length_cons, List.length_nil]at hi hb;rcases(show i = 0∨i = 1∨i = 2 by omega) with rfl|rfl|rfl
      all_goals first
      | (exfalso;omega)
      | (clear hb
         as_aux_lemma=>
           generalize aj YE = XY at *;simp only[aj, List.map_cons, List.map_nil, List.cons_append, List.nil_append, List.length_cons, List.length_nil, List.take, List.drop]at hv hs ⊢;generalize aP = T at *;refine fb ai mixed [.val] Tryz.func10 rfl rfl (by kernel_rfl) fun zD _ _ _ _ zJ _ _ _ _ _ _ zT _ _ _ _ _ _ _ _ _ _ _ _ _ _ _ _ _ _ _ _ _ A L F hS hF=> ?_
           have qn : ∀j : Int, j≠5 -> fA zT (bP zJ kd 8) j = false := fun j hj=> (hS.eq _ _).trans (decide_eq_false fun h=> hj (h.symm.trans ((hS.rem _ _).trans hk)))
           have qt : fA zT (bP zJ kd 8) 5 = true := (hS.eq _ _).trans (decide_eq_true ((hS.rem _ _).trans hk));have w0 : aE zD .i64 fK = fK := by rw[hS.wrap];exact wrap_i64 (by omega) (by omega)
           first|have ei : bP zJ (aE zD .i64 fK) (Int.ofNat 1) = Int.ofNat 0 := by rw[w0, hS.rem];exact hi|have ei : bP zJ (aE zD .i64 fK) (Int.ofNat 2) = Int.ofNat 0 := by rw[w0, hS.rem];exact hi|have ei : bP zJ (aE zD .i64 fK) (Int.ofNat 2) = Int.ofNat 1 := by rw[w0, hS.rem];exact hi|have ei : bP zJ (aE zD .i64 fK) (Int.ofNat 3) = Int.ofNat 0 := by rw[w0, hS.rem];exact hi|have ei : bP zJ (aE zD .i64 fK) (Int.ofNat 3) = Int.ofNat 1 := by rw[w0, hS.rem];exact hi|have ei : bP zJ (aE zD .i64 fK) (Int.ofNat 3) = Int.ofNat 2 := by rw[w0, hS.rem];exact hi
           cbv at ei;cbv;repeat (first|apply bT rfl|apply bF rfl|apply nd rfl|(apply tT rfl;cbv)|(apply tF rfl;cbv))
           refine tF (qn 1 (by decide)) ?_;cbv;repeat (first|apply bT rfl|apply bF rfl|apply nd rfl|(apply tT rfl;cbv)|(apply tF rfl;cbv))
           refine tF (qn 2 (by decide)) ?_;cbv;repeat (first|apply bT rfl|apply bF rfl|apply nd rfl|(apply tT rfl;cbv)|(apply tF rfl;cbv))
           refine tF (qn 3 (by decide)) ?_;cbv;repeat (first|apply bT rfl|apply bF rfl|apply nd rfl|(apply tT rfl;cbv)|(apply tF rfl;cbv))
           refine tF (qn 4 (by decide)) ?_;cbv;repeat (first|apply bT rfl|apply bF rfl|apply nd rfl|(apply tT rfl;cbv)|(apply tF rfl;cbv))
           apply tT qt;refine Qt (S0 := ?_) (fun K hK=> ?_) ?_
           rotate_left
           · cbv;exact hK
           refine NP rfl ?_;refine Qt (S0 := ?_) (fun K hK=> ?_) ?_
           rotate_left
           · cbv;simp only[ei];apply nd rfl;exact hK
           cbv;repeat (first|apply bT rfl|apply bF rfl|apply nd rfl|(apply tT rfl;cbv)|(apply tF rfl;cbv)|(refine hS.cl hs ?_;cbv)|(refine hS.cl hv ?_;cbv))
           cases b with
           | true=>
             repeat (first|apply bT rfl|apply bF rfl|apply nd rfl|(apply tT rfl;cbv)|(apply tF rfl;cbv))
             exact aC hF
           | false=>
             repeat (first|apply bT rfl|apply bF rfl|apply nd rfl|(apply tT rfl;cbv)|(apply tF rfl;cbv))
             exact aC hF)
end Go.Proofs.YtekefilngojelaaGreat
end
