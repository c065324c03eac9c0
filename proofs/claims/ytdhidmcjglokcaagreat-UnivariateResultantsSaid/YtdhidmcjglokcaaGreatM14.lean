/-
  The statement UnivariateResultantsSaid: for every input the call returns true, and each argument reads afterwards as it read before. No condition.
-/
import Derived.Test.YtdhidmcjglokcaaGreatM13
import Derived.Test.YtdhidmcjglokcaaGreatRows
set_option maxHeartbeats 0
set_option maxRecDepth 100000
set_option linter.unusedVariables false
set_option linter.unusedSimpArgs false
set_option linter.unusedSectionVars false
section
namespace Go.Proofs.YtdhidmcjglokcaaGreat
open Go Go.Abs Go.Proofs
set_option maxRecDepth 100000 in
theorem ur_x : ur [0, 1] = [Mem.o0, Mem.o1] := by kernel_rfl
theorem poly_x : ACall Tryz.prog 20 [.val (.c (.lst false [[.v (.int .i8 0)], [.v (.int .i8 1)]]))] ⟨[.val (tl (ur [0, 1]))], [none]⟩ := by
 rw [ur_x]
 exact Mem.k115
end Go.Proofs.YtdhidmcjglokcaaGreat
namespace Go.Proofs.YtdhidmcjglokcaaGreat.univariateResultants
open Go.Abs Go.ChangeShapes Go.WideShapes Go.ChangeAt Go.RowKit
theorem own : ownKnob Tryz.prog.godebug = none := by kernel_rfl
set_option maxRecDepth 100000 in
theorem lifted (os : Os) (started : os.Started) (H : Type) (enc : TypeId × Value -> H) :
  ReturnsInHanded {} Tryz.checked os 10 .any (Rows.univariateResultantsSpec.pre6 enc Tryz.prog Tryz.f10 Rows.univariateResultantsRow.domain false) (Rows.univariateResultantsSpec.post enc Tryz.prog Tryz.f10 false true false false) := by
 refine returnsInHanded_of_change_sized (C := Tryz.checked) own started (by kernel_rfl) Tryz.func10
  (ChangeSpec.witness6 (enc := enc) (C := Tryz.checked) false ⟨#[], #[.slice none 0 0, .slice none 0 0, .slice none 0 0], []⟩ 8 (by kernel_rfl) (by kernel_rfl) (by kernel_rfl) (by kernel_rfl)) ?_
 intro W base args ds gs before hval0 hW hcnd hz _
 have hval : ∀ (j : Nat) t v, Tryz.f10.params[j]? = some t -> args[j]? = some v -> Value.okWide Tryz.prog W .any base t v := hval0
 exact law_row_sized (P := Tryz.prog) (fn := Tryz.f10) (shs := [.slice YtdhidmcjglokcaaGreat.rawQ, .slice YtdhidmcjglokcaaGreat.rawQ, .slice YtdhidmcjglokcaaGreat.rawQ]) (by kernel_rfl) (by kernel_rfl) rfl rfl Tryz.underlying4
  (fun ds hd => by
   match ds, hd with
   | [d0, d1, d2], _ => exact ⟨rfl, rfl, rfl⟩)
  (YtdhidmcjglokcaaGreat.results_row (e := 54) YtdhidmcjglokcaaGreat.Mem.k744 YtdhidmcjglokcaaGreat.poly_x (by kernel_rfl) (by kernel_rfl)) hval hW hz
theorem over : Rows.univariateResultantsRow.holds Tryz.pinned (OpenSpec.ofChange Rows.univariateResultantsSpec) :=
 OpenClaim.holds_of_wide 10 Tryz.f10 rfl rfl rfl rfl rfl rfl rfl ⟨rfl, rfl, rfl, rfl, rfl⟩ rfl rfl rfl rfl rfl (by kernel_rfl) Tryz.func10 (by kernel_rfl)
  (of_decide_eq_true (by kernel_rfl)) (by unfold Func.isWrapper; first | (rw [if_pos (by decide +kernel)]; kernel_rfl) | (rw [if_neg (by decide +kernel)]; exact ⟨rfl, rfl⟩))
  (fun os started H enc _ => lifted os started H enc)
theorem proved : Rows.UnivariateResultantsSaid :=
 over
#print axioms proved
end Go.Proofs.YtdhidmcjglokcaaGreat.univariateResultants
end
