-- Written by a program of this session's, hprint.py, out of the translation. Not trusted: Lean checks it.
import Derived.Test.YtagnefbgclpccaaAx0
import Derived.Test.YtagnefbgclpccaaAx2
import Derived.Test.YtagnefbgclpccaaAx11
import Derived.Test.YtagnefbgclpccaaAx12
import Derived.Test.YtagnefbgclpccaaH2d
import Derived.Test.YtagnefbgclpccaaH3
namespace Go.Proofs.Ytagnefbgclpccaa.A
open Go.RowKit Go.Proofs.Ytagnefbgclpccaa.H Go.Proofs.YtagnefbgclpccaaW.PrintWords Go.Proofs.YtagnefbgclpccaaW.PrintLast Go.Proofs.YtagnefbgclpccaaW.PrintMore
attribute [local go_sem] max2_int min2_int max_two min_two max_three min_three max_four min_four   -- for this text's walks alone
set_option linter.unusedVariables false
set_option linter.unusedSimpArgs false

/-! ### masterdisclaw20_DirrecordEncodes: function 3 -/
/-! ### masterdiscref16_zone: function 55 -/
def masterdiscref16_zone.f (a0 : Int) : Option (Int × Bool) := if (wrap64 (a0)) ≥ 128 then (if (wrap64 ((wrap64 (a0)) - 256)) ≥ (-48) then (some (wrap64 (15 * (wrap64 ((wrap64 (a0)) - 256))), decide ((wrap64 ((wrap64 (a0)) - 256)) ≤ 52))) else (some (wrap64 (15 * (wrap64 ((wrap64 (a0)) - 256))), false))) else (if (wrap64 (a0)) ≥ (-48) then (some (wrap64 (15 * (wrap64 (a0))), decide ((wrap64 (a0)) ≤ 52))) else (some (wrap64 (15 * (wrap64 (a0))), false)))
set_option maxHeartbeats 8000000 in
set_option maxRecDepth 100000 in
theorem masterdiscref16_zone.calls (a0 : Int) (r1 : Int) (r2 : Bool) (w : World) (h : masterdiscref16_zone.f a0 = some (r1, r2)) :
    Calls Try.prog 55 #[.int .u8 a0] w fun e w' => e = .returned (.tuple #[.int .i64 r1, .bool r2]) ∧ Drawn0 w w' := by
  have H : (if (wrap64 (a0)) ≥ 128 then (if (wrap64 ((wrap64 (a0)) - 256)) ≥ (-48) then (some (wrap64 (15 * (wrap64 ((wrap64 (a0)) - 256))), decide ((wrap64 ((wrap64 (a0)) - 256)) ≤ 52))) else (some (wrap64 (15 * (wrap64 ((wrap64 (a0)) - 256))), false))) else (if (wrap64 (a0)) ≥ (-48) then (some (wrap64 (15 * (wrap64 (a0))), decide ((wrap64 (a0)) ≤ 52))) else (some (wrap64 (15 * (wrap64 (a0))), false)))) = some (r1, r2) := h
  clear h
  by_cases c2 : (wrap64 (a0)) ≥ 128
  · rw [if_pos c2] at H
    have c2b0 : decide (128 ≤ (wrap64 (a0))) = true := decide_eq_true c2
    clear c2
    by_cases c3 : (wrap64 ((wrap64 (a0)) - 256)) ≥ (-48)
    · rw [if_pos c3] at H
      have c3b0 : decide ((-48) ≤ (wrap64 ((wrap64 (a0)) - 256))) = true := decide_eq_true c3
      clear c3
      simp only [Option.some.injEq, Prod.mk.injEq] at H
      obtain ⟨rfl, rfl⟩ := H
      go_enter Try.func55, Try.ntmps55
      go_wp2
      go_ret2
      exact ⟨by first | rfl | (simp; done) | (simp [*]; done), by repeat (first | exact Drawn0.refl _ | apply Drawn0.step)⟩
    · rw [if_neg c3] at H
      have c3b0 : decide ((-48) ≤ (wrap64 ((wrap64 (a0)) - 256))) = false := decide_eq_false c3
      clear c3
      simp only [Option.some.injEq, Prod.mk.injEq] at H
      obtain ⟨rfl, rfl⟩ := H
      go_enter Try.func55, Try.ntmps55
      go_wp2
      go_ret2
      exact ⟨by first | rfl | (simp; done) | (simp [*]; done), by repeat (first | exact Drawn0.refl _ | apply Drawn0.step)⟩
  · rw [if_neg c2] at H
    have c2b0 : decide (128 ≤ (wrap64 (a0))) = false := decide_eq_false c2
    clear c2
    by_cases c4 : (wrap64 (a0)) ≥ (-48)
    · rw [if_pos c4] at H
      have c4b0 : decide ((-48) ≤ (wrap64 (a0))) = true := decide_eq_true c4
      clear c4
      simp only [Option.some.injEq, Prod.mk.injEq] at H
      obtain ⟨rfl, rfl⟩ := H
      go_enter Try.func55, Try.ntmps55
      go_wp2
      go_ret2
      exact ⟨by first | rfl | (simp; done) | (simp [*]; done), by repeat (first | exact Drawn0.refl _ | apply Drawn0.step)⟩
    · rw [if_neg c4] at H
      have c4b0 : decide ((-48) ≤ (wrap64 (a0))) = false := decide_eq_false c4
      clear c4
      simp only [Option.some.injEq, Prod.mk.injEq] at H
      obtain ⟨rfl, rfl⟩ := H
      go_enter Try.func55, Try.ntmps55
      go_wp2
      go_ret2
      exact ⟨by first | rfl | (simp; done) | (simp [*]; done), by repeat (first | exact Drawn0.refl _ | apply Drawn0.step)⟩

end Go.Proofs.Ytagnefbgclpccaa.A
