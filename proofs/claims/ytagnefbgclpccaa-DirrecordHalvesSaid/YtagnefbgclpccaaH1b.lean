import Derived.Test.YtagnefbgclpccaaH1a
namespace Go.Proofs.Ytagnefbgclpccaa.H
open Go.RowKit Go.Proofs.YtagnefbgclpccaaW.PrintWords
set_option linter.unusedVariables false

set_option maxHeartbeats 4000000 in
theorem month_at (y m : Int) (w : World) (h0 : 1 ≤ m) (h1 : m ≤ 12) (h2 : ¬ m = 2) :
    Calls Try.prog 67 #[.int .i64 y, .int .i64 m] w fun e w' => e = .returned (.int .i64 (mlen m)) ∧ Below w.heap.size w w' := by
  rcases (by omega : m = 1 ∨ m = 3 ∨ m = 4 ∨ m = 5 ∨ m = 6 ∨ m = 7 ∨ m = 8 ∨ m = 9 ∨ m = 10 ∨ m = 11 ∨ m = 12) with rfl | rfl | rfl | rfl | rfl | rfl | rfl | rfl | rfl | rfl | rfl
  all_goals
    go_enter Try.func67, Try.ntmps67
    go_wp2
    go_ret
    exact ⟨rfl, (Below.refl _ _).alloc (Nat.le_refl _) _⟩

theorem month_feb (y : Int) (w : World) :
    Calls Try.prog 67 #[.int .i64 y, .int .i64 2] w fun e w' => e = .returned (.int .i64 (if leapB y then 29 else 28)) ∧ Below w.heap.size w w' := by
  cases h : leapB y
  all_goals
    go_enter Try.func67, Try.ntmps67
    go_wp2_with (go_at_call 78; refine (leap_any _ _).mono ?_; rintro e w' ⟨rfl, rfl⟩)
    go_ret
    exact ⟨rfl, (Below.refl _ _).alloc (Nat.le_refl _) _⟩

/-- The days of a month, of whatever year. -/
def mdays (y m : Int) : Int := if m = 2 then (if leapB y then 29 else 28) else mlen m
theorem mdays_bd (y m : Int) : 28 ≤ mdays y m ∧ mdays y m ≤ 31 := by
  unfold mdays mlen
  repeat' split
  all_goals omega
theorem month_any (y m : Int) (w : World) (h0 : 1 ≤ m) (h1 : m ≤ 12) :
    Calls Try.prog 67 #[.int .i64 y, .int .i64 m] w fun e w' => e = .returned (.int .i64 (mdays y m)) ∧ Below w.heap.size w w' := by
  by_cases h2 : m = 2
  · subst h2
    unfold mdays
    rw [if_pos rfl]
    exact month_feb y w
  · unfold mdays
    rw [if_neg h2]
    exact month_at y m w h0 h1 h2

/-- datetime.monthDays. -/
def datetime_monthDays.f (a0 a1 : Int) : Option Int := if 1 ≤ a1 ∧ a1 ≤ 12 then some (mdays a0 a1) else none
theorem datetime_monthDays.calls (a0 : Int) (a1 : Int) (r : Int) (w : World) (h : datetime_monthDays.f a0 a1 = some r) :
    Calls Try.prog 67 #[.int .i64 a0, .int .i64 a1] w fun e w' => e = .returned (.int .i64 r) ∧ Below w.heap.size w w' := by
  unfold datetime_monthDays.f at h
  by_cases hc : 1 ≤ a1 ∧ a1 ≤ 12
  · rw [if_pos hc] at h
    obtain rfl := Option.some.inj h
    exact month_any a0 a1 w hc.1 hc.2
  · rw [if_neg hc] at h
    cases h

end Go.Proofs.Ytagnefbgclpccaa.H
