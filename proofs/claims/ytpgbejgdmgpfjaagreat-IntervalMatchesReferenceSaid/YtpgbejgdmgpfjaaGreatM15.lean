/-
  A part of the proof: Memo24F.
-/
import Derived.Test.YtpgbejgdmgpfjaaGreatM14
import Derived.Calls
import Derived.Laws.Cells
import Derived.Below
import Derived.ChangeKeysEq
import Derived.Laws.StructEq
import Derived.Laws.Small
import Derived.Laws.IdiomCopy
import Derived.Laws.BytesString
import Derived.Laws.Append
import Derived.Laws.Tables
import Derived.Great.BuildSlice
import Derived.IntWalk
import Derived.Orders
import Derived.Laws.BitsLemmas
import Derived.Test.YtpgbejgdmgpfjaaGreatProg
import Derived.ChangeSame
import Derived.Carry
import Derived.ProofKit
import Derived.WideKeyArgs
import Derived.OpenShut
import Derived.WalkKit

section
set_option linter.unusedVariables false
set_option linter.unusedSimpArgs false
/-
  A closed call, one function at a time, part 6 (printed by a program of mine).
-/
set_option maxRecDepth 100000
set_option maxHeartbeats 0
namespace Go.Proofs.YtpgbejgdmgpfjaaGreat.Mem
open Go Go.Abs Go.Proofs
theorem k700 : ACall Tryz.prog 167 [.val (.c (lF [u 5])), .val (.c (n64 0))] ⟨[.val (.c (w64 5))], [none, none]⟩ := ex (.nil) (by kernel_rfl)
theorem k701 : ACall Tryz.prog 190 [.val (.c (lF [u 5]))] ⟨[.val (.c (w64 5))], [none]⟩ := ex (.cons k699 (.cons k700 .nil)) (by kernel_rfl)
theorem k702 : ACall Tryz.prog 167 [.val (.c (lF [u 4])), .val (.c (n64 1))] ⟨[.val (.c (w64 0))], [none, none]⟩ := ex (.nil) (by kernel_rfl)
theorem k703 : ACall Tryz.prog 167 [.val (.c (lF [u 4])), .val (.c (n64 0))] ⟨[.val (.c (w64 4))], [none, none]⟩ := ex (.nil) (by kernel_rfl)
theorem k704 : ACall Tryz.prog 190 [.val (.c (lF [u 4]))] ⟨[.val (.c (w64 4))], [none]⟩ := ex (.cons k702 (.cons k703 .nil)) (by kernel_rfl)
theorem k705 : ACall Tryz.prog 189 [.val (.c (w64 5)), .val (.c (w64 4))] ⟨[.val (.c (w64 1))], [none, none]⟩ := ex (.nil) (by kernel_rfl)
theorem k706 : ACall Tryz.prog 163 [.val (.c (lF [u 5])), .val (.c (lF [u 4]))] ⟨[.val (.c (l1))], [none, none]⟩ := ex (.cons k701 (.cons k704 (.cons k705 (.cons k1 .nil)))) (by kernel_rfl)
theorem k707 : ACall Tryz.prog 122 [.val (.agg [bF, lF [u 5]]), .val (.agg [bF, lF [u 4]])] ⟨[.val (.agg [bF, l1])], [none, none]⟩ := ex (.cons k706 (.cons k5 .nil)) (by kernel_rfl)
theorem k708 : ACall Tryz.prog 132 [.val (.c (lF [u 5])), .val (.c (l1))] ⟨[.val (.c (n64 1))], [none, none]⟩ := ex (.nil) (by kernel_rfl)
theorem k709 : ACall Tryz.prog 201 [.val (.c (lF [u 5])), .val (.c (w64 1))] ⟨[.val (.c (lF [u 5])), .val (.c (w64 0))], [none, none]⟩ := ex (.cons k18 .nil) (by kernel_rfl)
theorem k710 : ACall Tryz.prog 191 [.val (.c (lF [u 5])), .val (.c (l1))] ⟨[.val (.c (lF [u 5])), .val (.c (lF []))], [none, none]⟩ := ex (.cons k708 (.cons k709 (.cons k171 .nil))) (by kernel_rfl)
theorem k711 : ACall Tryz.prog 166 [.val (.agg [bF, lF [u 5]]), .val (.agg [bF, l1])] ⟨[.val (.agg [bF, lF [u 5]]), .val (.agg [bF, lF []]), .val (.c (n64 0))], [none, none]⟩ := ex (.cons k710 (.cons k19 (.cons k173 .nil))) (by kernel_rfl)
theorem k712 : ACall Tryz.prog 129 [.val (.agg [bF, lF [u 5]]), .val (.agg [bF, l1])] ⟨[.val (.agg [bF, lF [u 5]])], [none, none]⟩ := ex (.cons k711 .nil) (by kernel_rfl)
theorem k713 : ACall Tryz.prog 132 [.val (.c (lF [u 4])), .val (.c (l1))] ⟨[.val (.c (n64 1))], [none, none]⟩ := ex (.nil) (by kernel_rfl)
theorem k714 : ACall Tryz.prog 201 [.val (.c (lF [u 4])), .val (.c (w64 1))] ⟨[.val (.c (lF [u 4])), .val (.c (w64 0))], [none, none]⟩ := ex (.cons k178 .nil) (by kernel_rfl)
theorem k715 : ACall Tryz.prog 191 [.val (.c (lF [u 4])), .val (.c (l1))] ⟨[.val (.c (lF [u 4])), .val (.c (lF []))], [none, none]⟩ := ex (.cons k713 (.cons k714 (.cons k171 .nil))) (by kernel_rfl)
theorem k716 : ACall Tryz.prog 166 [.val (.agg [bF, lF [u 4]]), .val (.agg [bF, l1])] ⟨[.val (.agg [bF, lF [u 4]]), .val (.agg [bF, lF []]), .val (.c (n64 0))], [none, none]⟩ := ex (.cons k715 (.cons k179 (.cons k173 .nil))) (by kernel_rfl)
theorem k717 : ACall Tryz.prog 129 [.val (.agg [bF, lF [u 4]]), .val (.agg [bF, l1])] ⟨[.val (.agg [bF, lF [u 4]])], [none, none]⟩ := ex (.cons k716 .nil) (by kernel_rfl)
theorem k718 : ACall Tryz.prog 78 [.val (.agg [bF, lF [u 5]]), .val (.agg [bF, lF [u 4]])] ⟨[.val (.agg [bF, lF [u 5], bF, lF [u 4]])], [none, none]⟩ := ex (.cons k707 (.cons k698 (.cons k712 (.cons k717 .nil)))) (by kernel_rfl)
theorem k719 : ACall Tryz.prog 90 [.val (.agg [bF, lF [u 5]]), .val (.agg [bF, lF [u 4]])] ⟨[.val (.agg [bF, lF [u 5], bF, lF [u 4]]), .val (.c (n64 0))], [none, none]⟩ := ex (.cons k698 (.cons k718 .nil)) (by kernel_rfl)
theorem k720 : ACall Tryz.prog 41 [.val (.agg [bF, lF [u 5], bF, l1]), .val (.agg [bF, lF [u 4], bF, l1])] ⟨[.val (.agg [bF, lF [u 5], bF, lF [u 4]]), .val (.c (n64 0))], [none, none]⟩ := ex (.cons k695 (.cons k697 (.cons k719 .nil))) (by kernel_rfl)
theorem k721 : ACall Tryz.prog 165 [.val (.c (lF [u 19, u 0]))] ⟨[.val (.c (lF [u 19]))], [none]⟩ := ex (.nil) (by kernel_rfl)
theorem k722 : ACall Tryz.prog 127 [.val (.c (w64 19))] ⟨[.val (.c (lF [u 19]))], [none]⟩ := ex (.cons k721 .nil) (by kernel_rfl)
theorem k723 : ACall Tryz.prog 165 [.val (.c (lF [u 19]))] ⟨[.val (.c (lF [u 19]))], [none]⟩ := ex (.nil) (by kernel_rfl)
theorem k724 : ACall Tryz.prog 126 [.val (.c (bF)), .val (.c (lF [u 19]))] ⟨[.val (.agg [bF, lF [u 19]])], [none, none]⟩ := ex (.cons k723 .nil) (by kernel_rfl)
theorem k725 : ACall Tryz.prog 77 [.val (.c (n64 19))] ⟨[.val (.agg [bF, lF [u 19]])], [none]⟩ := ex (.cons k722 (.cons k724 .nil)) (by kernel_rfl)
theorem k726 : ACall Tryz.prog 29 [.val (.c (n64 19))] ⟨[.val (.agg [bF, lF [u 19], bF, l1])], [none]⟩ := ex (.cons k725 (.cons k6 .nil)) (by kernel_rfl)
theorem k727 : ACall Tryz.prog 165 [.val (.c (lF [u 12, u 0]))] ⟨[.val (.c (lF [u 12]))], [none]⟩ := ex (.nil) (by kernel_rfl)
theorem k728 : ACall Tryz.prog 127 [.val (.c (w64 12))] ⟨[.val (.c (lF [u 12]))], [none]⟩ := ex (.cons k727 .nil) (by kernel_rfl)
theorem k729 : ACall Tryz.prog 165 [.val (.c (lF [u 12]))] ⟨[.val (.c (lF [u 12]))], [none]⟩ := ex (.nil) (by kernel_rfl)
theorem k730 : ACall Tryz.prog 126 [.val (.c (bF)), .val (.c (lF [u 12]))] ⟨[.val (.agg [bF, lF [u 12]])], [none, none]⟩ := ex (.cons k729 .nil) (by kernel_rfl)
theorem k731 : ACall Tryz.prog 77 [.val (.c (n64 12))] ⟨[.val (.agg [bF, lF [u 12]])], [none]⟩ := ex (.cons k728 (.cons k730 .nil)) (by kernel_rfl)
theorem k732 : ACall Tryz.prog 29 [.val (.c (n64 12))] ⟨[.val (.agg [bF, lF [u 12], bF, l1])], [none]⟩ := ex (.cons k731 (.cons k6 .nil)) (by kernel_rfl)
theorem k733 : ACall Tryz.prog 130 [.val (.c (lF [u 19])), .val (.c (l1))] ⟨[.val (.c (lF [u 19]))], [none, none]⟩ := ex (.cons k721 .nil) (by kernel_rfl)
theorem k734 : ACall Tryz.prog 79 [.val (.agg [bF, lF [u 19]]), .val (.agg [bF, l1])] ⟨[.val (.agg [bF, lF [u 19]])], [none, none]⟩ := ex (.cons k733 (.cons k724 .nil)) (by kernel_rfl)
theorem k735 : ACall Tryz.prog 130 [.val (.c (l1)), .val (.c (lF [u 12]))] ⟨[.val (.c (lF [u 12]))], [none, none]⟩ := ex (.cons k727 .nil) (by kernel_rfl)
theorem k736 : ACall Tryz.prog 79 [.val (.agg [bF, l1]), .val (.agg [bF, lF [u 12]])] ⟨[.val (.agg [bF, lF [u 12]])], [none, none]⟩ := ex (.cons k735 (.cons k730 .nil)) (by kernel_rfl)
theorem k737 : ACall Tryz.prog 107 [.val (.agg [bF, lF [u 12]])] ⟨[.val (.c (n64 1))], [none]⟩ := ex (.nil) (by kernel_rfl)
theorem k738 : ACall Tryz.prog 167 [.val (.c (lF [u 19])), .val (.c (n64 1))] ⟨[.val (.c (w64 0))], [none, none]⟩ := ex (.nil) (by kernel_rfl)
theorem k739 : ACall Tryz.prog 167 [.val (.c (lF [u 19])), .val (.c (n64 0))] ⟨[.val (.c (w64 19))], [none, none]⟩ := ex (.nil) (by kernel_rfl)
theorem k740 : ACall Tryz.prog 190 [.val (.c (lF [u 19]))] ⟨[.val (.c (w64 19))], [none]⟩ := ex (.cons k738 (.cons k739 .nil)) (by kernel_rfl)
theorem k741 : ACall Tryz.prog 167 [.val (.c (lF [u 12])), .val (.c (n64 1))] ⟨[.val (.c (w64 0))], [none, none]⟩ := ex (.nil) (by kernel_rfl)
theorem k742 : ACall Tryz.prog 167 [.val (.c (lF [u 12])), .val (.c (n64 0))] ⟨[.val (.c (w64 12))], [none, none]⟩ := ex (.nil) (by kernel_rfl)
theorem k743 : ACall Tryz.prog 190 [.val (.c (lF [u 12]))] ⟨[.val (.c (w64 12))], [none]⟩ := ex (.cons k741 (.cons k742 .nil)) (by kernel_rfl)
theorem k744 : ACall Tryz.prog 189 [.val (.c (w64 19)), .val (.c (w64 12))] ⟨[.val (.c (w64 1))], [none, none]⟩ := ex (.nil) (by kernel_rfl)
theorem k745 : ACall Tryz.prog 163 [.val (.c (lF [u 19])), .val (.c (lF [u 12]))] ⟨[.val (.c (l1))], [none, none]⟩ := ex (.cons k740 (.cons k743 (.cons k744 (.cons k1 .nil)))) (by kernel_rfl)
theorem k746 : ACall Tryz.prog 122 [.val (.agg [bF, lF [u 19]]), .val (.agg [bF, lF [u 12]])] ⟨[.val (.agg [bF, l1])], [none, none]⟩ := ex (.cons k745 (.cons k5 .nil)) (by kernel_rfl)
theorem k747 : ACall Tryz.prog 132 [.val (.c (lF [u 19])), .val (.c (l1))] ⟨[.val (.c (n64 1))], [none, none]⟩ := ex (.nil) (by kernel_rfl)
theorem k748 : ACall Tryz.prog 201 [.val (.c (lF [u 19])), .val (.c (w64 1))] ⟨[.val (.c (lF [u 19])), .val (.c (w64 0))], [none, none]⟩ := ex (.cons k723 .nil) (by kernel_rfl)
theorem k749 : ACall Tryz.prog 191 [.val (.c (lF [u 19])), .val (.c (l1))] ⟨[.val (.c (lF [u 19])), .val (.c (lF []))], [none, none]⟩ := ex (.cons k747 (.cons k748 (.cons k171 .nil))) (by kernel_rfl)
theorem k750 : ACall Tryz.prog 166 [.val (.agg [bF, lF [u 19]]), .val (.agg [bF, l1])] ⟨[.val (.agg [bF, lF [u 19]]), .val (.agg [bF, lF []]), .val (.c (n64 0))], [none, none]⟩ := ex (.cons k749 (.cons k724 (.cons k173 .nil))) (by kernel_rfl)
theorem k751 : ACall Tryz.prog 129 [.val (.agg [bF, lF [u 19]]), .val (.agg [bF, l1])] ⟨[.val (.agg [bF, lF [u 19]])], [none, none]⟩ := ex (.cons k750 .nil) (by kernel_rfl)
theorem k752 : ACall Tryz.prog 132 [.val (.c (lF [u 12])), .val (.c (l1))] ⟨[.val (.c (n64 1))], [none, none]⟩ := ex (.nil) (by kernel_rfl)
theorem k753 : ACall Tryz.prog 201 [.val (.c (lF [u 12])), .val (.c (w64 1))] ⟨[.val (.c (lF [u 12])), .val (.c (w64 0))], [none, none]⟩ := ex (.cons k729 .nil) (by kernel_rfl)
theorem k754 : ACall Tryz.prog 191 [.val (.c (lF [u 12])), .val (.c (l1))] ⟨[.val (.c (lF [u 12])), .val (.c (lF []))], [none, none]⟩ := ex (.cons k752 (.cons k753 (.cons k171 .nil))) (by kernel_rfl)
theorem k755 : ACall Tryz.prog 166 [.val (.agg [bF, lF [u 12]]), .val (.agg [bF, l1])] ⟨[.val (.agg [bF, lF [u 12]]), .val (.agg [bF, lF []]), .val (.c (n64 0))], [none, none]⟩ := ex (.cons k754 (.cons k730 (.cons k173 .nil))) (by kernel_rfl)
theorem k756 : ACall Tryz.prog 129 [.val (.agg [bF, lF [u 12]]), .val (.agg [bF, l1])] ⟨[.val (.agg [bF, lF [u 12]])], [none, none]⟩ := ex (.cons k755 .nil) (by kernel_rfl)
theorem k757 : ACall Tryz.prog 78 [.val (.agg [bF, lF [u 19]]), .val (.agg [bF, lF [u 12]])] ⟨[.val (.agg [bF, lF [u 19], bF, lF [u 12]])], [none, none]⟩ := ex (.cons k746 (.cons k737 (.cons k751 (.cons k756 .nil)))) (by kernel_rfl)
theorem k758 : ACall Tryz.prog 90 [.val (.agg [bF, lF [u 19]]), .val (.agg [bF, lF [u 12]])] ⟨[.val (.agg [bF, lF [u 19], bF, lF [u 12]]), .val (.c (n64 0))], [none, none]⟩ := ex (.cons k737 (.cons k757 .nil)) (by kernel_rfl)
theorem k759 : ACall Tryz.prog 41 [.val (.agg [bF, lF [u 19], bF, l1]), .val (.agg [bF, lF [u 12], bF, l1])] ⟨[.val (.agg [bF, lF [u 19], bF, lF [u 12]]), .val (.c (n64 0))], [none, none]⟩ := ex (.cons k734 (.cons k736 (.cons k758 .nil))) (by kernel_rfl)
theorem k760 : ACall Tryz.prog 82 [.val (.agg [bF, lF [u 5]]), .val (.agg [bF, lF [u 5]])] ⟨[.val (.c (bT))], [none, none]⟩ := ex (.nil) (by kernel_rfl)
theorem k761 : ACall Tryz.prog 33 [.val (.agg [bF, lF [u 5], bF, lF [u 4]]), .val (.agg [bF, lF [u 5], bF, lF [u 4]])] ⟨[.val (.c (bT))], [none, none]⟩ := ex (.cons k760 (.cons k185 .nil)) (by kernel_rfl)
theorem k762 : ACall Tryz.prog 82 [.val (.agg [bF, lF [u 19]]), .val (.agg [bF, lF [u 19]])] ⟨[.val (.c (bT))], [none, none]⟩ := ex (.nil) (by kernel_rfl)
theorem k763 : ACall Tryz.prog 82 [.val (.agg [bF, lF [u 12]]), .val (.agg [bF, lF [u 12]])] ⟨[.val (.c (bT))], [none, none]⟩ := ex (.nil) (by kernel_rfl)
theorem k764 : ACall Tryz.prog 33 [.val (.agg [bF, lF [u 19], bF, lF [u 12]]), .val (.agg [bF, lF [u 19], bF, lF [u 12]])] ⟨[.val (.c (bT))], [none, none]⟩ := ex (.cons k762 (.cons k763 .nil)) (by kernel_rfl)
theorem k765 : ACall Tryz.prog 15 [.val (.agg [bF, lF [u 5], bF, lF [u 4], bF, lF [u 19], bF, lF [u 12]]), .val (.agg [bF, lF [u 5], bF, lF [u 4], bF, lF [u 19], bF, lF [u 12]])] ⟨[.val (.c (bT))], [none, none]⟩ := ex (.cons k761 (.cons k764 .nil)) (by kernel_rfl)
theorem k766 : ACall Tryz.prog 113 [.val (.agg [bF, lF [u 5], bF, lF [u 4]])] ⟨[.val (.c (n64 1))], [none]⟩ := ex (.cons k29 .nil) (by kernel_rfl)
theorem k767 : ACall Tryz.prog 155 [.val (.c (lF [u 5])), .val (.c (lF [u 4]))] ⟨[.val (.c (n64 1))], [none, none]⟩ := ex (.nil) (by kernel_rfl)
theorem k768 : ACall Tryz.prog 114 [.val (.agg [bF, lF [u 5]]), .val (.agg [bF, lF [u 4]])] ⟨[.val (.c (n64 1))], [none, none]⟩ := ex (.cons k29 (.cons k157 (.cons k767 .nil))) (by kernel_rfl)
theorem k769 : ACall Tryz.prog 67 [.val (.agg [bF, lF [u 5], bF, lF [u 4]]), .val (.agg [bF, l1, bF, l1])] ⟨[.val (.c (n64 1))], [none, none]⟩ := ex (.cons k766 (.cons k24 (.cons k40 (.cons k355 (.cons k768 .nil))))) (by kernel_rfl)
theorem k770 : ACall Tryz.prog 118 [.val (.agg [bF, lF [u 19]])] ⟨[.val (.c (n64 1))], [none]⟩ := ex (.nil) (by kernel_rfl)
theorem k771 : ACall Tryz.prog 113 [.val (.agg [bF, lF [u 19], bF, lF [u 12]])] ⟨[.val (.c (n64 1))], [none]⟩ := ex (.cons k770 .nil) (by kernel_rfl)
theorem k772 : ACall Tryz.prog 119 [.val (.agg [bF, lF [u 19]])] ⟨[.val (.c (bF))], [none]⟩ := ex (.nil) (by kernel_rfl)
theorem k773 : ACall Tryz.prog 115 [.val (.c (lF [[bF, lF [u 19]], [bF, l1]]))] ⟨[.val (.agg [bF, lF [u 19]])], [none]⟩ := ex (.cons k37 (.cons k772 (.cons k39 .nil))) (by kernel_rfl)
theorem k774 : ACall Tryz.prog 118 [.val (.agg [bF, lF [u 24]])] ⟨[.val (.c (n64 1))], [none]⟩ := ex (.nil) (by kernel_rfl)
theorem k775 : ACall Tryz.prog 155 [.val (.c (lF [u 19])), .val (.c (lF [u 24]))] ⟨[.val (.c (n64 (-1)))], [none, none]⟩ := ex (.nil) (by kernel_rfl)
theorem k776 : ACall Tryz.prog 114 [.val (.agg [bF, lF [u 19]]), .val (.agg [bF, lF [u 24]])] ⟨[.val (.c (n64 (-1)))], [none, none]⟩ := ex (.cons k770 (.cons k774 (.cons k775 .nil))) (by kernel_rfl)
theorem k777 : ACall Tryz.prog 67 [.val (.agg [bF, lF [u 19], bF, lF [u 12]]), .val (.agg [bF, lF [u 2], bF, l1])] ⟨[.val (.c (n64 (-1)))], [none, none]⟩ := ex (.cons k771 (.cons k32 (.cons k773 (.cons k604 (.cons k776 .nil))))) (by kernel_rfl)
theorem k778 : ACall Tryz.prog 44 [.val (.c (lF [[lF [[bF, l1, bF, l1, n64 2, n64 0, n64 0, n64 0, n64 0, n64 0, n64 0, n64 0], [bT, lF [u 2], bF, l1, n64 0, n64 0, n64 0, n64 0, n64 0, n64 0, n64 0, n64 0]]]])), .val (.c (n64 1)), .val (.agg [bF, l1, bF, l1, bF, lF [u 2], bF, l1, bF, lF [], bF, l1, bF, lF [], bF, l1, bF, lF [], bF, l1, bF, lF [], bF, l1, bF, lF [], bF, l1, bF, lF [], bF, l1, bF, lF [], bF, l1, bF, lF [], bF, l1, bF, lF [], bF, l1, bF, lF [], bF, l1, bF, lF [], bF, l1, bF, lF [], bF, l1, bF, lF [], bF, l1, bF, lF [], bF, l1])] ⟨[.val (.c (bT))], [none, none, none]⟩ := ex (.cons k692 (.cons k769 (.cons k777 .nil))) (by kernel_rfl)
theorem k779 : ACall Tryz.prog 183 [.val (.c (lT [])), .val (.c (lT []))] ⟨[.val (.c (lF []))], [none, none]⟩ := ex (.cons k149 .nil) (by kernel_rfl)
theorem k780 : ACall Tryz.prog 156 [.val (.agg [bF, lT []]), .val (.agg [bF, lT []])] ⟨[.val (.agg [bF, lT []])], [none, none]⟩ := ex (.cons k779 (.cons k150 .nil)) (by kernel_rfl)
theorem k781 : ACall Tryz.prog 115 [.val (.c (lF [[bF, lT []], [bF, lT []]]))] ⟨[.val (.agg [bF, lT []])], [none]⟩ := ex (.cons k37 (.cons k328 (.cons k39 (.cons k780 .nil)))) (by kernel_rfl)
theorem k782 : ACall Tryz.prog 99 [.val (.agg [bF, lT [], bF, l1]), .val (.agg [bF, lT [], bF, l1])] ⟨[.val (.agg [bF, lT [], bF, l1])], [none, none]⟩ := ex (.cons k313 (.cons k781 (.cons k47 .nil))) (by kernel_rfl)
theorem k783 : ACall Tryz.prog 115 [.val (.c (lF [[bF, l1], [bF, lT []]]))] ⟨[.val (.agg [bF, lT []])], [none]⟩ := ex (.cons k37 (.cons k39 (.cons k328 .nil))) (by kernel_rfl)
theorem k784 : ACall Tryz.prog 99 [.val (.agg [bF, l1, bF, l1]), .val (.agg [bF, lT [], bF, l1])] ⟨[.val (.agg [bF, lT [], bF, l1])], [none, none]⟩ := ex (.cons k84 (.cons k313 (.cons k783 (.cons k47 .nil)))) (by kernel_rfl)
theorem k785 : ACall Tryz.prog 143 [.val (.agg [bF, lT [], bF, l1]), .val (.c (n64 2))] ⟨[.val (.agg [bF, lT [], bF, l1])], [none, none]⟩ := ex (.cons k129 (.cons k782 (.cons k784 .nil))) (by kernel_rfl)
theorem k786 : ACall Tryz.prog 170 [.val (.c (lT [])), .val (.c (lT []))] ⟨[.val (.c (lF []))], [none, none]⟩ := ex (.cons k310 .nil) (by kernel_rfl)
theorem k787 : ACall Tryz.prog 139 [.val (.agg [bF, lT []]), .val (.agg [bF, lT []])] ⟨[.val (.agg [bF, lT []])], [none, none]⟩ := ex (.cons k786 (.cons k150 .nil)) (by kernel_rfl)
theorem k788 : ACall Tryz.prog 93 [.val (.agg [bF, lT [], bF, l1]), .val (.agg [bF, lT [], bF, l1])] ⟨[.val (.agg [bF, lT [], bF, l1])], [none, none]⟩ := ex (.cons k329 (.cons k787 (.cons k47 (.cons k313 .nil)))) (by kernel_rfl)
theorem k789 : ACall Tryz.prog 171 [.val (.c (lF [u 2])), .val (.c (lT []))] ⟨[.val (.c (lF [u 2]))], [none, none]⟩ := ex (.cons k190 .nil) (by kernel_rfl)
theorem k790 : ACall Tryz.prog 139 [.val (.agg [bF, lT []]), .val (.agg [bT, lF [u 2]])] ⟨[.val (.agg [bT, lF [u 2]])], [none, none]⟩ := ex (.cons k319 (.cons k789 (.cons k191 .nil))) (by kernel_rfl)
theorem k791 : ACall Tryz.prog 93 [.val (.agg [bF, lT [], bF, l1]), .val (.agg [bT, lF [u 2], bF, l1])] ⟨[.val (.agg [bT, lF [u 2], bF, l1])], [none, none]⟩ := ex (.cons k329 (.cons k213 (.cons k790 (.cons k47 (.cons k193 .nil))))) (by kernel_rfl)
theorem k792 : ACall Tryz.prog 95 [.val (.c (lF [[bF, l1, bF, l1, n64 2, n64 0, n64 0, n64 0, n64 0, n64 0, n64 0, n64 0], [bT, lF [u 2], bF, l1, n64 0, n64 0, n64 0, n64 0, n64 0, n64 0, n64 0, n64 0]])), .val (.agg [bF, lT [], bF, l1, bF, lT [], bF, l1, bF, lT [], bF, l1, bF, lT [], bF, l1, bF, lT [], bF, l1, bF, lT [], bF, l1, bF, lT [], bF, l1, bF, lT [], bF, l1])] ⟨[.val (.agg [bT, lF [u 2], bF, l1])], [none, none]⟩ := ex (.cons k153 (.cons k785 (.cons k784 (.cons k788 (.cons k791 .nil))))) (by kernel_rfl)
theorem k793 : ACall Tryz.prog 143 [.val (.agg [bF, lT [], bF, l1]), .val (.c (n64 1))] ⟨[.val (.agg [bF, lT [], bF, l1])], [none, none]⟩ := ex (.cons k129 (.cons k784 .nil)) (by kernel_rfl)
theorem k794 : ACall Tryz.prog 183 [.val (.c (lF [u 2])), .val (.c (lT []))] ⟨[.val (.c (lF []))], [none, none]⟩ := ex (.cons k310 .nil) (by kernel_rfl)
theorem k795 : ACall Tryz.prog 156 [.val (.agg [bF, lF [u 2]]), .val (.agg [bF, lT []])] ⟨[.val (.agg [bF, lT []])], [none, none]⟩ := ex (.cons k794 (.cons k150 .nil)) (by kernel_rfl)
theorem k796 : ACall Tryz.prog 115 [.val (.c (lF [[bF, lF [u 2]], [bF, lT []]]))] ⟨[.val (.agg [bF, lT []])], [none]⟩ := ex (.cons k37 (.cons k41 (.cons k39 (.cons k328 (.cons k795 .nil))))) (by kernel_rfl)
theorem k797 : ACall Tryz.prog 99 [.val (.agg [bF, lF [u 2], bF, l1]), .val (.agg [bF, lT [], bF, l1])] ⟨[.val (.agg [bF, lT [], bF, l1])], [none, none]⟩ := ex (.cons k87 (.cons k313 (.cons k796 (.cons k47 .nil)))) (by kernel_rfl)
theorem k798 : ACall Tryz.prog 95 [.val (.c (lF [[bF, lF [u 2], bF, l1, n64 1, n64 0, n64 0, n64 0, n64 0, n64 0, n64 0, n64 0]])), .val (.agg [bF, lT [], bF, l1, bF, lT [], bF, l1, bF, lT [], bF, l1, bF, lT [], bF, l1, bF, lT [], bF, l1, bF, lT [], bF, l1, bF, lT [], bF, l1, bF, lT [], bF, l1])] ⟨[.val (.agg [bF, lT [], bF, l1])], [none, none]⟩ := ex (.cons k153 (.cons k793 (.cons k797 (.cons k788 .nil)))) (by kernel_rfl)
theorem k799 : ACall Tryz.prog 173 [.val (.c (lF [[lF [[bF, lT [], bF, l1]]]]))] ⟨[.val (.c (n64 1))], [none]⟩ := ex (.nil) (by kernel_rfl)
theorem k800 : ACall Tryz.prog 144 [.val (.c (lF [[lF [[bF, lT [], bF, l1]]]]))] ⟨[.val (.c (bT))], [none]⟩ := ex (.cons k799 .nil) (by kernel_rfl)
theorem k801 : ACall Tryz.prog 146 [.val (.c (lF [[bF, lT [], bF, l1]]))] ⟨[.own 4 [[bF, lT [], bF, l1]]], [none]⟩ := ex (.nil) (by kernel_rfl)
theorem k802 : ACall Tryz.prog 146 [.val (.c (lF [[bF, lT [], bF, l1], [bF, l1, bF, l1]]))] ⟨[.own 4 [[bF, lT [], bF, l1], [bF, l1, bF, l1]]], [none]⟩ := ex (.nil) (by kernel_rfl)
theorem k803 : ACall Tryz.prog 148 [.val (.c (lF [[lF [[bF, lT [], bF, l1], [bF, l1, bF, l1]]]])), .val (.c (.v (.func (.func 146) #[] #[])))] ⟨[.own 1 [[lF [[bF, lT [], bF, l1], [bF, l1, bF, l1]]]]], [none, none]⟩ := ex (.cons k802 .nil) (by kernel_rfl)
theorem k804 : ACall Tryz.prog 173 [.val (.c (lF [[lF [[bF, lT [], bF, l1], [bF, l1, bF, l1]]]]))] ⟨[.val (.c (n64 2))], [none]⟩ := ex (.nil) (by kernel_rfl)
theorem k805 : ACall Tryz.prog 174 [.val (.c (lF [[lF [[bF, lT [], bF, l1], [bF, l1, bF, l1]]]])), .val (.c (n64 0)), .val (.c (n64 0))] ⟨[.val (.c (n64 (-1)))], [none, none, none]⟩ := ex (.cons k155 .nil) (by kernel_rfl)
theorem k806 : ACall Tryz.prog 174 [.val (.c (lF [[lF [[bF, lT [], bF, l1], [bF, l1, bF, l1]]]])), .val (.c (n64 0)), .val (.c (n64 1))] ⟨[.val (.c (n64 0))], [none, none, none]⟩ := ex (.cons k24 .nil) (by kernel_rfl)
theorem k807 : ACall Tryz.prog 138 [.val (.agg [bF, l1, bF, l1])] ⟨[.val (.agg [bF, l1, bF, l1]), .val (.c (n64 0))], [none]⟩ := ex (.cons k23 .nil) (by kernel_rfl)
theorem k808 : ACall Tryz.prog 176 [.val (.agg [bF, lT [], bF, l1]), .ref [bF, l1, bF, l1]] ⟨[.val (.agg [bF, lT [], bF, l1])], [none, some (.var [.t (bF), .t (l1), .t (bF), .t (l1)])]⟩ := ex (.cons k784 .nil) (by kernel_rfl)
theorem k809 : ACall Tryz.prog 176 [.val (.agg [bF, l1, bF, l1]), .ref [bF, l1, bF, l1]] ⟨[.val (.agg [bF, l1, bF, l1])], [none, some (.var [.t (bF), .t (l1), .t (bF), .t (l1)])]⟩ := ex (.cons k416 .nil) (by kernel_rfl)
theorem k810 : ACall Tryz.prog 175 [.val (.c (lF [[bF, lT [], bF, l1], [bF, l1, bF, l1]])), .clo 176 [(2, (0, 0))], .gh [bF, l1, bF, l1]] ⟨[.val (.c (lF [[bF, lT [], bF, l1], [bF, l1, bF, l1]]))], [none, none, some (.var [.t (bF), .t (l1), .t (bF), .t (l1)])]⟩ := ex (.cons k808 (.cons k809 .nil)) (by kernel_rfl)
theorem k811 : ACall Tryz.prog 177 [.val (.c (lF [])), .val (.c (lF [[bF, lT [], bF, l1], [bF, l1, bF, l1]])), .val (.c (n64 1))] ⟨[], [none, none, none]⟩ := ex (.nil) (by kernel_rfl)
theorem k812 : ACall Tryz.prog 147 [.val (.c (lF [[lF [[bF, lT [], bF, l1], [bF, l1, bF, l1]]]]))] ⟨[.val (.c (lF [[lF [[bF, lT [], bF, l1], [bF, l1, bF, l1]]]])), .val (.c (lF [[n64 1]]))], [none]⟩ := ex (.cons k803 (.cons k804 (.cons k805 (.cons k806 (.cons k807 (.cons k810 (.cons k811 .nil))))))) (by kernel_rfl)
theorem k813 : ACall Tryz.prog 97 [.val (.c (lF [[lF [[bF, lT [], bF, l1]]]]))] ⟨[.val (.c (lT [])), .val (.c (n64 110))], [none]⟩ := ex (.cons k800 (.cons k387 (.cons k129 (.cons k801 (.cons k812 .nil))))) (by kernel_rfl)
theorem k814 : ACall Tryz.prog 42 [.val (.c (lF [[lF [[bF, l1, bF, l1, n64 2, n64 0, n64 0, n64 0, n64 0, n64 0, n64 0, n64 0], [bT, lF [u 2], bF, l1, n64 0, n64 0, n64 0, n64 0, n64 0, n64 0, n64 0, n64 0]]]])), .val (.c (n64 1)), .val (.agg [bF, lF [], bF, l1, bF, lF [], bF, l1, bF, lF [], bF, l1, bF, lF [], bF, l1, bF, lF [], bF, l1, bF, lF [], bF, l1, bF, lF [], bF, l1, bF, lF [], bF, l1, bF, lF [], bF, l1, bF, lF [], bF, l1, bF, lF [], bF, l1, bF, lF [], bF, l1, bF, lF [], bF, l1, bF, lF [], bF, l1, bF, lF [], bF, l1, bF, lF [], bF, l1])] ⟨[.val (.agg [bF, lT [], bF, lT [], bF, lT [], bF, lT [], bF, lT [], bF, lT [], bF, lT [], bF, lT [], bF, lT [], bF, lT [], bF, lT [], bF, lT [], bF, lT [], bF, lT [], bF, lT [], bF, lT [], bF, lT [], bF, lT [], bF, lT [], bF, lT [], bF, lT [], bF, lT [], bF, lT [], bF, lT [], bF, lT [], bF, lT [], bF, lT [], bF, lT [], bF, lT [], bF, lT [], bF, lT [], bF, lT []]), .val (.c (n64 110))], [none, none, none]⟩ := ex (.cons k292 (.cons k314 (.cons k299 (.cons k331 (.cons k792 (.cons k372 (.cons k798 (.cons k813 .nil)))))))) (by kernel_rfl)
theorem k815 : ACall Tryz.prog 44 [.val (.c (lF [[lF [[bF, l1, bF, l1, n64 2, n64 0, n64 0, n64 0, n64 0, n64 0, n64 0, n64 0], [bT, lF [u 2], bF, l1, n64 0, n64 0, n64 0, n64 0, n64 0, n64 0, n64 0, n64 0]]]])), .val (.c (n64 1)), .val (.agg [bF, lF [], bF, l1, bF, lF [], bF, l1, bF, lF [], bF, l1, bF, lF [], bF, l1, bF, lF [], bF, l1, bF, lF [], bF, l1, bF, lF [], bF, l1, bF, lF [], bF, l1, bF, lF [], bF, l1, bF, lF [], bF, l1, bF, lF [], bF, l1, bF, lF [], bF, l1, bF, lF [], bF, l1, bF, lF [], bF, l1, bF, lF [], bF, l1, bF, lF [], bF, l1])] ⟨[.val (.c (bF))], [none, none, none]⟩ := ex (.cons k814 .nil) (by kernel_rfl)
theorem k816 : ACall Tryz.prog 33 [.val (.agg [bF, l1, bF, l1]), .val (.agg [bF, l1, bF, l1])] ⟨[.val (.c (bT))], [none, none]⟩ := ex (.cons k123 .nil) (by kernel_rfl)
theorem k817 : ACall Tryz.prog 82 [.val (.agg [bF, lF [u 2]]), .val (.agg [bF, lF [u 2]])] ⟨[.val (.c (bT))], [none, none]⟩ := ex (.nil) (by kernel_rfl)
theorem k818 : ACall Tryz.prog 33 [.val (.agg [bF, lF [u 2], bF, l1]), .val (.agg [bF, lF [u 2], bF, l1])] ⟨[.val (.c (bT))], [none, none]⟩ := ex (.cons k817 (.cons k123 .nil)) (by kernel_rfl)
theorem k819 : ACall Tryz.prog 15 [.val (.agg [bF, l1, bF, l1, bF, lF [u 2], bF, l1]), .val (.agg [bF, l1, bF, l1, bF, lF [u 2], bF, l1])] ⟨[.val (.c (bT))], [none, none]⟩ := ex (.cons k816 (.cons k818 .nil)) (by kernel_rfl)
theorem k820 : ACall Tryz.prog 117 [.val (.agg [bT, l1])] ⟨[.val (.c (bT))], [none]⟩ := ex (.nil) (by kernel_rfl)
theorem k821 : ACall Tryz.prog 117 [.val (.agg [bF, l1])] ⟨[.val (.c (bT))], [none]⟩ := ex (.nil) (by kernel_rfl)
theorem k822 : ACall Tryz.prog 69 [.val (.agg [bT, l1, bF, l1])] ⟨[.val (.c (bT))], [none]⟩ := ex (.cons k820 (.cons k821 (.cons k23 (.cons k39 .nil)))) (by kernel_rfl)
theorem k823 : ACall Tryz.prog 117 [.val (.agg [bF, lF [u 2]])] ⟨[.val (.c (bT))], [none]⟩ := ex (.nil) (by kernel_rfl)
theorem k824 : ACall Tryz.prog 69 [.val (.agg [bF, lF [u 2], bF, l1])] ⟨[.val (.c (bT))], [none]⟩ := ex (.cons k823 (.cons k821 (.cons k23 (.cons k39 .nil)))) (by kernel_rfl)
theorem k825 : ACall Tryz.prog 67 [.val (.agg [bT, l1, bF, l1]), .val (.agg [bF, lF [u 2], bF, l1])] ⟨[.val (.c (n64 (-1)))], [none, none]⟩ := ex (.cons k26 (.cons k32 .nil)) (by kernel_rfl)
theorem k826 : ACall Tryz.prog 16 [.val (.agg [bT, l1, bF, l1, bF, lF [u 2], bF, l1])] ⟨[.val (.c (bT))], [none]⟩ := ex (.cons k822 (.cons k824 (.cons k825 .nil))) (by kernel_rfl)
theorem k827 : ACall Tryz.prog 57 [.val (.c (n64 2)), .val (.c (n64 1))] ⟨[.val (.agg [bF, lF [u 2], bF, l1, bF, l1, bF, l1])], [none, none]⟩ := ex (.cons k13 (.cons k15 .nil)) (by kernel_rfl)
theorem k828 : ACall Tryz.prog 69 [.val (.agg [bF, l1, bF, l1])] ⟨[.val (.c (bT))], [none]⟩ := ex (.cons k821 (.cons k23 (.cons k39 .nil))) (by kernel_rfl)
theorem k829 : ACall Tryz.prog 16 [.val (.agg [bF, lF [u 2], bF, l1, bF, l1, bF, l1])] ⟨[.val (.c (bF))], [none]⟩ := ex (.cons k824 (.cons k828 (.cons k421 .nil))) (by kernel_rfl)
theorem k830 : ACall Tryz.prog 18 [.val (.agg [bT, l1, bF, l1, bF, lF [u 2], bF, l1]), .val (.agg [bF, lF [u 2], bF, l1])] ⟨[.val (.c (bT))], [none, none]⟩ := ex (.cons k825 (.cons k430 .nil)) (by kernel_rfl)
theorem k831 : ACall Tryz.prog 88 [.val (.c (n64 0)), .clo 86 [(2, (0, 0)), (3, (0, 0))], .gh [lT []], .gh [bF, l1, bF, l1, bF, lF [u 2], bF, l1, bF, lF [], bF, l1, bF, lF [], bF, l1, bF, lF [], bF, l1, bF, lF [], bF, l1, bF, lF [], bF, l1, bF, lF [], bF, l1, bF, lF [], bF, l1, bF, lF [], bF, l1, bF, lF [], bF, l1, bF, lF [], bF, l1, bF, lF [], bF, l1, bF, lF [], bF, l1, bF, lF [], bF, l1, bF, lF [], bF, l1]] ⟨[.val (.agg [bF, lT [], bF, l1, bF, lT [], bF, l1])], [none, none, some (.var [.t (lT [])]), some (.var [.t (bF), .t (l1), .t (bF), .t (l1), .t (bF), .t (lF [u 2]), .t (bF), .t (l1), .t (bF), .t (lF []), .t (bF), .t (l1), .t (bF), .t (lF []), .t (bF), .t (l1), .t (bF), .t (lF []), .t (bF), .t (l1), .t (bF), .t (lF []), .t (bF), .t (l1), .t (bF), .t (lF []), .t (bF), .t (l1), .t (bF), .t (lF []), .t (bF), .t (l1), .t (bF), .t (lF []), .t (bF), .t (l1), .t (bF), .t (lF []), .t (bF), .t (l1), .t (bF), .t (lF []), .t (bF), .t (l1), .t (bF), .t (lF []), .t (bF), .t (l1), .t (bF), .t (lF []), .t (bF), .t (l1), .t (bF), .t (lF []), .t (bF), .t (l1), .t (bF), .t (lF []), .t (bF), .t (l1), .t (bF), .t (lF []), .t (bF), .t (l1)])]⟩ := ex (.cons k153 (.cons k414 .nil)) (by kernel_rfl)
theorem k832 : ACall Tryz.prog 39 [.val (.c (lT [])), .val (.agg [bF, l1, bF, l1, bF, lF [u 2], bF, l1, bF, lF [], bF, l1, bF, lF [], bF, l1, bF, lF [], bF, l1, bF, lF [], bF, l1, bF, lF [], bF, l1, bF, lF [], bF, l1, bF, lF [], bF, l1, bF, lF [], bF, l1, bF, lF [], bF, l1, bF, lF [], bF, l1, bF, lF [], bF, l1, bF, lF [], bF, l1, bF, lF [], bF, l1, bF, lF [], bF, l1])] ⟨[.val (.agg [bF, lT [], bF, l1, bF, lT [], bF, l1])], [none, none]⟩ := ex (.cons k831 .nil) (by kernel_rfl)
theorem k833 : ACall Tryz.prog 57 [.val (.c (n64 0)), .val (.c (n64 0))] ⟨[.val (.agg [bF, lF [], bF, l1, bF, lF [], bF, l1])], [none, none]⟩ := ex (.cons k175 .nil) (by kernel_rfl)
theorem k834 : ACall Tryz.prog 15 [.val (.agg [bF, lT [], bF, l1, bF, lT [], bF, l1]), .val (.agg [bF, lF [], bF, l1, bF, lF [], bF, l1])] ⟨[.val (.c (bT))], [none, none]⟩ := ex (.cons k184 .nil) (by kernel_rfl)
theorem k835 : ACall Tryz.prog 11 [] ⟨[.val (.c (bT))], []⟩ := ex (.cons k14 (.cons k22 (.cons k51 (.cons k58 (.cons k68 (.cons k72 (.cons k114 (.cons k121 (.cons k127 (.cons k169 (.cons k182 (.cons k187 (.cons k201 (.cons k205 (.cons k208 (.cons k229 (.cons k230 (.cons k233 (.cons k235 (.cons k236 (.cons k238 (.cons k261 (.cons k265 (.cons k289 (.cons k692 (.cons k693 (.cons k21 (.cons k181 (.cons k720 (.cons k726 (.cons k732 (.cons k759 (.cons k765 (.cons k778 (.cons k815 (.cons k819 (.cons k826 (.cons k827 (.cons k829 (.cons k13 (.cons k830 (.cons k832 (.cons k833 (.cons k834 .nil)))))))))))))))))))))))))))))))))))))))))))) (by kernel_rfl)
end Go.Proofs.YtpgbejgdmgpfjaaGreat.Mem
end

