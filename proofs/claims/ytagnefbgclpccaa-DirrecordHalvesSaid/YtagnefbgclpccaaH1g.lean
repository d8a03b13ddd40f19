import Derived.Test.YtagnefbgclpccaaH0
namespace Go.Proofs.Ytagnefbgclpccaa.H
open Go.RowKit Go.Proofs.YtagnefbgclpccaaW.PrintWords
set_option linter.unusedVariables false

/-- Is a number between 0 and a greatest one? -/
def inB (n m : Int) : Bool := decide (0 ≤ n ∧ n ≤ m)
theorem in_any (n m : Int) (w : World) : Calls Try.prog 82 #[.int .i64 n, .int .i64 m] w fun e w' => e = .returned (.bool (inB n m)) ∧ w = w' := by
  by_cases h : 0 ≤ n
  · have d : decide (0 ≤ n) = true := decide_eq_true h
    go_enter Try.func82, Try.ntmps82
    go_wp2
    go_ret
    exact ⟨congrArg (fun z => Ending.returned (.bool z)) (by unfold inB; rw [decide_eq_decide]; omega), rfl⟩
  · have d : decide (0 ≤ n) = false := decide_eq_false h
    go_enter Try.func82, Try.ntmps82
    go_wp2
    go_ret
    exact ⟨congrArg (fun z => Ending.returned (.bool z)) (by unfold inB; rw [eq_comm, decide_eq_false_iff_not]; omega), rfl⟩

/-- The function in datetime.valid. -/
def datetime_valid_1.f (a0 a1 : Int) : Option Bool := some (inB a0 a1)
theorem datetime_valid_1.calls (a0 : Int) (a1 : Int) (r : Bool) (w : World) (h : datetime_valid_1.f a0 a1 = some r) :
    Calls Try.prog 82 #[.int .i64 a0, .int .i64 a1] w fun e w' => e = .returned (.bool r) ∧ Drawn0 w w' := by
  obtain rfl := Option.some.inj h
  exact (in_any a0 a1 w).mono fun e w' ⟨he, hw⟩ => ⟨he, hw ▸ Drawn0.refl w⟩

end Go.Proofs.Ytagnefbgclpccaa.H
