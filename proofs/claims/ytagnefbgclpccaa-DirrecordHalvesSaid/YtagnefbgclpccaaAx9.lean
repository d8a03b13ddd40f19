-- Written by a program of this session's, hprint.py, out of the translation. Not trusted: Lean checks it.
import Derived.Test.YtagnefbgclpccaaAx0
namespace Go.Proofs.Ytagnefbgclpccaa.A
open Go.RowKit Go.Proofs.Ytagnefbgclpccaa.H Go.Proofs.YtagnefbgclpccaaW.PrintWords Go.Proofs.YtagnefbgclpccaaW.PrintLast Go.Proofs.YtagnefbgclpccaaW.PrintMore
attribute [local go_sem] max2_int min2_int max_two min_two max_three min_three max_four min_four   -- for this text's walks alone
set_option linter.unusedVariables false
set_option linter.unusedSimpArgs false

/-! ### endian_double: function 41 -/
def endian_double.f (a0 : Int) : Option (Bool) := if a0 = 1 then (some true) else (if a0 = 2 then (some true) else (some (a0 == 4)))
set_option maxHeartbeats 8000000 in
set_option maxRecDepth 100000 in
theorem endian_double.calls (a0 : Int) (r : Bool) (w : World) (h : endian_double.f a0 = some r) :
    Calls Try.prog 41 #[.int .i64 a0] w fun e w' => e = .returned (.bool r) ∧ Drawn0 w w' := by
  have H : (if a0 = 1 then (some true) else (if a0 = 2 then (some true) else (some (a0 == 4)))) = some r := h
  clear h
  by_cases c2 : a0 = 1
  · rw [if_pos c2] at H
    have c2b0 : (a0 == 1) = true := beq_iff_eq.mpr c2
    have c2b1 : (a0 != 1) = false := bne_eq_false_iff_eq.mpr c2
    clear c2
    obtain rfl := Option.some.inj H
    go_enter Try.func41, Try.ntmps41
    go_wp2
    go_ret
    exact ⟨by first | rfl | (simp; done) | (simp [*]; done), by repeat (first | exact Drawn0.refl _ | apply Drawn0.step)⟩
  · rw [if_neg c2] at H
    have c2b0 : (a0 == 1) = false := beq_eq_false_iff_ne.mpr c2
    have c2b1 : (a0 != 1) = true := bne_iff_ne.mpr c2
    by_cases c3 : a0 = 2
    · rw [if_pos c3] at H
      have c3b0 : (a0 == 2) = true := beq_iff_eq.mpr c3
      have c3b1 : (a0 != 2) = false := bne_eq_false_iff_eq.mpr c3
      clear c3
      obtain rfl := Option.some.inj H
      go_enter Try.func41, Try.ntmps41
      go_wp2
      go_ret
      exact ⟨by first | rfl | (simp; done) | (simp [*]; done), by repeat (first | exact Drawn0.refl _ | apply Drawn0.step)⟩
    · rw [if_neg c3] at H
      have c3b0 : (a0 == 2) = false := beq_eq_false_iff_ne.mpr c3
      have c3b1 : (a0 != 2) = true := bne_iff_ne.mpr c3
      obtain rfl := Option.some.inj H
      go_enter Try.func41, Try.ntmps41
      go_wp2
      go_ret
      exact ⟨by first | rfl | (simp; done) | (simp [*]; done), by repeat (first | exact Drawn0.refl _ | apply Drawn0.step)⟩

-- NOT PRINTED: function 45 (endian_down)

end Go.Proofs.Ytagnefbgclpccaa.A
