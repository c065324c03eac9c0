/-
  The statement ModularInvertsSaid: for every input the call returns true, and each argument reads afterwards as it read before. No condition.
-/
import Derived.Test.YtgncmjcoojmccaaM9
import Derived.Calls
import Derived.Laws.Cells
import Derived.Below
import Derived.Laws.Small
import Derived.Laws.IdiomCopy
import Derived.Laws.BytesString
import Derived.Laws.Append
import Derived.Laws.Tables
import Derived.Great.BuildSlice
import Derived.IntWalk
import Derived.Orders
import Derived.Laws.BitsLemmas
import Derived.Test.YtgncmjcoojmccaaProg
import Derived.ChangeSame
import Derived.Carry
import Derived.ProofKit
import Derived.Test.YtgncmjcoojmccaaRows
import Derived.WalkKit
import Derived.OpenShut

section
namespace Go.Proofs.Ytgncmjcoojmccaa.modularInverts
open Go.Abs Go.ChangeShapes Go.WideShapes Go.ChangeAt Go.RowKit
set_option linter.unusedVariables false      -- a walk need not use every 'w<i>' (that an integer argument fits its kind)

theorem own : ownKnob Try.prog.godebug = none := by kernel_rfl

/-- The walk: the Go text returns true; of what there was nothing has turned. -/
theorem walk (a0 : Int) (a1 : Int) (a2 : Int) (w0 : (Lit.int .u32 a0).wf = true) (w1 : (Lit.int .u64 a1).wf = true) (w2 : (Lit.int .u64 a2).wf = true) (w : World) :
    Calls Try.prog 5 #[.int .u32 a0, .int .u64 a1, .int .u64 a2] w fun e w' => e = .returned (.bool true) ∧ Below w.heap.size w w' := by
  have b0 := bd_u32 w0
  have b1 := bd_u64 w1
  have b2 := bd_u64 w2
  have h := law_calls (args := [ti .u32 a0, ti .u64 a1, ti .u64 a2]) (inverts_call sanity_call a0 a1 a2 b0.1 b0.2 b1.1 b1.2 b2.1 b2.2) w [.int .u32 a0, .int .u64 a1, .int .u64 a2] rfl fun i x hi => match i, x, hi with
    | 0, _, h => by cases h; exact ⟨_, rfl, rep_int⟩
    | 1, _, h => by cases h; exact ⟨_, rfl, rep_int⟩
    | 2, _, h => by cases h; exact ⟨_, rfl, rep_int⟩
    | n + 3, _, h => by simp at h
  exact h

/-! ### THE ROW's STEP: WRITTEN OUT: LEAVE IT -/
set_option maxRecDepth 100000 in
theorem lifted (os : Os) (started : os.Started) (H : Type) (enc : TypeId × Value → H) :
    ReturnsInHanded {} Try.checked os 5 .any (Rows.modularInvertsSpec.pre6 enc Try.prog Try.f5 Rows.modularInvertsRow.domain false) (Rows.modularInvertsSpec.post enc Try.prog Try.f5 false true false false) := by
  refine returnsInHanded_of_change (C := Try.checked) own started (by kernel_rfl) Try.func5
    (ChangeSpec.witness6 (enc := enc) (C := Try.checked) false ⟨#[], #[.int .u32 0, .int .u64 0, .int .u64 0], []⟩ 8 (by kernel_rfl) (by kernel_rfl) (by kernel_rfl) (by kernel_rfl)) ?_
  intro W base args ds gs before hval0 hW hcnd _
  have hval : ∀ (j : Nat) t v, Try.f5.params[j]? = some t → args[j]? = some v → Value.okWide Try.prog W .any base t v := hval0
  have hW' := hW
  obtain ⟨p, q, hA0, hV, rfl, hfz, hnd⟩ := hW
  have hA : DataW.TrodAll enc Try.prog W 0 (fun _ => true) true Try.f5.params.toList args.toList ds p := hA0
  rw [Try.params5] at hA hval
  obtain ⟨v0, vs0, d0, ds0, p0, q0, hargs, rfl, rfl, h0, r0⟩ := trodAll_cons hA
  obtain ⟨v1, vs1, d1, ds1, p1, q1, rfl, rfl, rfl, h1, r1⟩ := trodAll_cons r0
  obtain ⟨v2, vs2, d2, ds2, p2, q2, rfl, rfl, rfl, h2, r2⟩ := trodAll_cons r1
  obtain ⟨rfl, rfl, rfl⟩ := trodAll_nil r2
  obtain rfl : args = #[v0, v1, v2] := by cases args; simp_all
  obtain ⟨rfl, rfl⟩ := trodVars_none hV
  obtain ⟨a0, rfl, rfl, rfl, w0⟩ := open_int Try.underlying22 (hval 0 22 v0 rfl rfl) h0
  obtain ⟨a1, rfl, rfl, rfl, w1⟩ := open_int Try.underlying23 (hval 1 23 v1 rfl rfl) h1
  obtain ⟨a2, rfl, rfl, rfl, w2⟩ := open_int Try.underlying23 (hval 2 23 v2 rfl rfl) h2
  clear hA0 hval0
  simp only [List.append_nil] at hW'
  refine (walk a0 a1 a2 w0 w1 w2 W).mono fun e W' ⟨he, hg⟩ => ?_
  subst he
  exact ⟨_, rfl, post_of_below (pa := []) (pv := []) hW' (fun _ _ _ => (trodAll_cons_mk (shut_bool Try.underlying4 _) trodAll_mk0)) (fun sp _ => (trodAll_cons_mk (shut_int Try.underlying22 w0) (trodAll_cons_mk (shut_int Try.underlying23 w1) (trodAll_cons_mk (shut_int Try.underlying23 w2) trodAll_mk0)))) (fun _ _ => rfl) rfl hg
    (ok_one (by kernel_rfl) rfl (okWide_bool_mk Try.underlying4 _))⟩

theorem over : Rows.modularInvertsRow.holds Try.pinned (OpenSpec.ofChange Rows.modularInvertsSpec) :=
  OpenClaim.holds_of_wide 5 Try.f5 rfl rfl rfl rfl rfl rfl rfl ⟨rfl, rfl, rfl, rfl, rfl⟩ rfl rfl rfl rfl rfl (by kernel_rfl) Try.func5 (by kernel_rfl)
    (of_decide_eq_true (by kernel_rfl)) (by unfold Func.isWrapper; first | (rw [if_pos (by decide +kernel)]; kernel_rfl) | (rw [if_neg (by decide +kernel)]; exact ⟨rfl, rfl⟩))
    (fun os started H enc _ => lifted os started H enc)

/-- ████ THE STATEMENT ████ -/
theorem proved : Rows.ModularInvertsSaid :=
  over
#print axioms proved
end Go.Proofs.Ytgncmjcoojmccaa.modularInverts
end

