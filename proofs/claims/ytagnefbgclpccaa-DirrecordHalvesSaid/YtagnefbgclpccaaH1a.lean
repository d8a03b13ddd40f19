import Derived.Test.YtagnefbgclpccaaH0
namespace Go.Proofs.Ytagnefbgclpccaa.H
open Go.RowKit Go.Proofs.YtagnefbgclpccaaW.PrintWords
set_option linter.unusedVariables false

def leapB (y : Int) : Bool := (Int.tmod y 400 == 0) || ((Int.tmod y 4 == 0) && (Int.tmod y 100 != 0))

theorem leap_any (y : Int) (w : World) : Calls Try.prog 78 #[.int .i64 y] w fun e w' => e = .returned (.bool (leapB y)) ∧ w = w' := by
  by_cases h1 : Int.tmod y 400 = 0
  · have e1 : (Int.tmod y 400 == 0) = true := by simp [h1]
    go_enter Try.func78, Try.ntmps78
    go_wp2
    go_ret
    exact ⟨by simp [leapB, h1], rfl⟩
  · have e1 : (Int.tmod y 400 == 0) = false := by simp [h1]
    by_cases h2 : Int.tmod y 4 = 0
    · have e2 : (Int.tmod y 4 == 0) = true := by simp [h2]
      clear h1 h2
      go_enter Try.func78, Try.ntmps78
      go_wp2
      go_ret
      exact ⟨by simp [leapB, e1, e2], rfl⟩
    · have e2 : (Int.tmod y 4 == 0) = false := by simp [h2]
      clear h1 h2
      go_enter Try.func78, Try.ntmps78
      go_wp2
      go_ret
      exact ⟨by simp [leapB, e1, e2], rfl⟩

end Go.Proofs.Ytagnefbgclpccaa.H
