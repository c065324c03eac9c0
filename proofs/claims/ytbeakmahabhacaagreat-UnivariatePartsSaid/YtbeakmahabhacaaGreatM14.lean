/-
  The statement UnivariatePartsSaid: for every input the call returns true, and each argument reads afterwards as it read before. No condition.
-/
import Derived.Test.YtbeakmahabhacaaGreatM13
import Derived.Test.YtbeakmahabhacaaGreatRows
set_option maxHeartbeats 0
set_option maxRecDepth 100000
set_option linter.unusedVariables false
set_option linter.unusedSimpArgs false
set_option linter.unusedSectionVars false
section
namespace Go.Proofs.YtbeakmahabhacaaGreat.univariateParts
open Go.Abs Go.ChangeShapes Go.WideShapes Go.ChangeAt Go.RowKit
theorem own : ownKnob Tryz.prog.godebug = none := by kernel_rfl
set_option maxRecDepth 100000 in
theorem lifted (os : Os) (started : os.Started) (H : Type) (enc : TypeId × Value -> H) :
  ReturnsInHanded {} Tryz.checked os 3 .any (Rows.univariatePartsSpec.pre6 enc Tryz.prog Tryz.f3 Rows.univariatePartsRow.domain false) (Rows.univariatePartsSpec.post enc Tryz.prog Tryz.f3 false true false false) := by
 refine returnsInHanded_of_change_sized (C := Tryz.checked) own started (by kernel_rfl) Tryz.func3
  (ChangeSpec.witness6 (enc := enc) (C := Tryz.checked) false ⟨#[], #[.slice none 0 0, .slice none 0 0, .slice none 0 0], []⟩ 8 (by kernel_rfl) (by kernel_rfl) (by kernel_rfl) (by kernel_rfl)) ?_
 intro W base args ds gs before hval0 hW hcnd hz _
 have hval : ∀ (j : Nat) t v, Tryz.f3.params[j]? = some t -> args[j]? = some v -> Value.okWide Tryz.prog W .any base t v := hval0
 exact law_row_sized (P := Tryz.prog) (fn := Tryz.f3) (shs := [.slice YtbeakmahabhacaaGreat.rawQ, .slice YtbeakmahabhacaaGreat.rawQ, .slice YtbeakmahabhacaaGreat.rawQ]) (by kernel_rfl) (by kernel_rfl) rfl rfl Tryz.underlying4
  (fun ds hd => by
   match ds, hd with
   | [d0, d1, d2], _ => exact ⟨rfl, rfl, rfl⟩)
  (YtbeakmahabhacaaGreat.parts_row (e := 57) YtbeakmahabhacaaGreat.Mem.k744 YtbeakmahabhacaaGreat.poly_one (by kernel_rfl) (by kernel_rfl)) hval hW hz
theorem over : Rows.univariatePartsRow.holds Tryz.pinned (OpenSpec.ofChange Rows.univariatePartsSpec) :=
 OpenClaim.holds_of_wide 3 Tryz.f3 rfl rfl rfl rfl rfl rfl rfl ⟨rfl, rfl, rfl, rfl, rfl⟩ rfl rfl rfl rfl rfl (by kernel_rfl) Tryz.func3 (by kernel_rfl)
  (of_decide_eq_true (by kernel_rfl)) (by unfold Func.isWrapper; first | (rw [if_pos (by decide +kernel)]; kernel_rfl) | (rw [if_neg (by decide +kernel)]; exact ⟨rfl, rfl⟩))
  (fun os started H enc _ => lifted os started H enc)
theorem proved : Rows.UnivariatePartsSaid :=
 over
#print axioms proved
end Go.Proofs.YtbeakmahabhacaaGreat.univariateParts
end
