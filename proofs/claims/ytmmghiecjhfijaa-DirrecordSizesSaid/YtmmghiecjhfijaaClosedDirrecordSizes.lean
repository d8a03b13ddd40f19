/- The closed facts of the row of DirrecordSizes: the program's and the row's cells agree. There are no conditions. -/
import Derived.Test.YtmmghiecjhfijaaRows
import Derived.WalkKit
import Derived.ProofKit
import Derived.SizedLaws
import Derived.JoinedOf
namespace Go.Proofs.Ytmmghiecjhfijaa.dirrecordSizes
set_option maxHeartbeats 8000000 in
theorem closed : joinedFacts Try.pinned.checked.prog 8 Try.f8 Rows.dirrecordSizesSpec Rows.dirrecordSizesRow = true := by
  unfold joinedFacts
  simp only [Bool.and_eq_true]
  repeat' (with_reducible refine And.intro ?_ ?_)
  all_goals (as_aux_lemma => kernel_rfl)
end Go.Proofs.Ytmmghiecjhfijaa.dirrecordSizes
