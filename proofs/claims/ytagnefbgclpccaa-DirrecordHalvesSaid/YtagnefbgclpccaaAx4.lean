-- Written by a program of this session's, hprint.py, out of the translation. Not trusted: Lean checks it.
import Derived.Test.YtagnefbgclpccaaAx0
namespace Go.Proofs.Ytagnefbgclpccaa.A
open Go.RowKit Go.Proofs.Ytagnefbgclpccaa.H Go.Proofs.YtagnefbgclpccaaW.PrintWords Go.Proofs.YtagnefbgclpccaaW.PrintLast Go.Proofs.YtagnefbgclpccaaW.PrintMore
attribute [local go_sem] max2_int min2_int max_two min_two max_three min_three max_four min_four   -- for this text's walks alone
set_option linter.unusedVariables false
set_option linter.unusedSimpArgs false

/-! ### datetime_quarter: function 52 -/
def datetime_quarter.f (a0 : Int) : Option (Int × Bool) := if (wrap64 (IntKind.i8.wrap (a0))) ≥ (-48) then (some (wrap64 (15 * (wrap64 (IntKind.i8.wrap (a0)))), decide ((wrap64 (IntKind.i8.wrap (a0))) ≤ 52))) else (some (wrap64 (15 * (wrap64 (IntKind.i8.wrap (a0)))), false))
set_option maxHeartbeats 8000000 in
set_option maxRecDepth 100000 in
theorem datetime_quarter.calls0 (a0 : Int) (r1 : Int) (r2 : Bool) (w : World) (h : datetime_quarter.f a0 = some (r1, r2)) :
    Calls Try.prog 52 #[.int .u8 a0] w fun e w' => e = .returned (.tuple #[.int .i64 r1, .bool r2]) ∧ Drawn0 w w' := by
  have H : (if (wrap64 (IntKind.i8.wrap (a0))) ≥ (-48) then (some (wrap64 (15 * (wrap64 (IntKind.i8.wrap (a0)))), decide ((wrap64 (IntKind.i8.wrap (a0))) ≤ 52))) else (some (wrap64 (15 * (wrap64 (IntKind.i8.wrap (a0)))), false))) = some (r1, r2) := h
  clear h
  by_cases c2 : (wrap64 (IntKind.i8.wrap (a0))) ≥ (-48)
  · rw [if_pos c2] at H
    have c2b0 : decide ((-48) ≤ (wrap64 (IntKind.i8.wrap (a0)))) = true := decide_eq_true c2
    clear c2
    simp only [Option.some.injEq, Prod.mk.injEq] at H
    obtain ⟨rfl, rfl⟩ := H
    go_enter Try.func52, Try.ntmps52
    go_wp2
    go_ret2
    exact ⟨by first | rfl | (simp; done) | (simp [*]; done), by repeat (first | exact Drawn0.refl _ | apply Drawn0.step)⟩
  · rw [if_neg c2] at H
    have c2b0 : decide ((-48) ≤ (wrap64 (IntKind.i8.wrap (a0)))) = false := decide_eq_false c2
    clear c2
    simp only [Option.some.injEq, Prod.mk.injEq] at H
    obtain ⟨rfl, rfl⟩ := H
    go_enter Try.func52, Try.ntmps52
    go_wp2
    go_ret2
    exact ⟨by first | rfl | (simp; done) | (simp [*]; done), by repeat (first | exact Drawn0.refl _ | apply Drawn0.step)⟩

/-- The same, told as of a function that may make memory. -/
theorem datetime_quarter.calls (a0 : Int) (r1 : Int) (r2 : Bool) (w : World) (h : datetime_quarter.f a0 = some (r1, r2)) :
    Calls Try.prog 52 #[.int .u8 a0] w fun e w' => e = .returned (.tuple #[.int .i64 r1, .bool r2]) ∧ Below w.heap.size w w' :=
  (datetime_quarter.calls0 a0 r1 r2 w h).mono fun _ _ h_ => ⟨h_.1, h_.2.below⟩

end Go.Proofs.Ytagnefbgclpccaa.A
