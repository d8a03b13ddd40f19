/- The closed facts of the row of DirectoryReturns: the program's and the row's cells agree. There are no conditions. -/
import Derived.Test.YthblghfobnhoeaaGreatRows
import Derived.WalkKit
import Derived.ProofKit
import Derived.SizedLaws
import Derived.JoinedOf
namespace Go.Proofs.YthblghfobnhoeaaGreat.directoryReturns
set_option maxHeartbeats 8000000 in
theorem closed : joinedFacts Tryz.pinned.checked.prog 7 Tryz.f7 Rows.directoryReturnsSpec Rows.directoryReturnsRow = true := by
  unfold joinedFacts
  simp only [Bool.and_eq_true]
  repeat' (with_reducible refine And.intro ?_ ?_)
  all_goals (as_aux_lemma => kernel_rfl)
end Go.Proofs.YthblghfobnhoeaaGreat.directoryReturns
