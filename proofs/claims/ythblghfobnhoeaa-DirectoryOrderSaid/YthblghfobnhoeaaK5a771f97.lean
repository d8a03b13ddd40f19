/- The closed facts of the row of DirectoryOrder: the program's and the row's cells agree. There are no conditions. -/
import Derived.Test.YthblghfobnhoeaaRows
import Derived.WalkKit
import Derived.ProofKit
import Derived.SizedLaws
import Derived.JoinedOf
namespace Go.Proofs.Ythblghfobnhoeaa.directoryOrder
set_option maxHeartbeats 8000000 in
theorem closed : joinedFacts Try.pinned.checked.prog 3 Try.f3 Rows.directoryOrderSpec Rows.directoryOrderRow = true := by
  unfold joinedFacts
  simp only [Bool.and_eq_true]
  repeat' (with_reducible refine And.intro ?_ ?_)
  all_goals (as_aux_lemma => kernel_rfl)
end Go.Proofs.Ythblghfobnhoeaa.directoryOrder
