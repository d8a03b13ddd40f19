import Derived.Test.YtagnefbgclpccaaH1b
import Derived.WalkSmall
namespace Go.Proofs.Ytagnefbgclpccaa.H
open Go.RowKit Go.Proofs.YtagnefbgclpccaaW.PrintWords
set_option linter.unusedVariables false

/-- The days of a month, as the reference has them. -/
def rleap (y : Int) : Bool := (Int.tmod y 4 == 0) && ((Int.tmod y 100 != 0) || (Int.tmod y 400 == 0))
def rdays (y m : Int) : Int := if m = 2 then (if rleap y then 29 else 28) else if m = 4 then 30 else if m = 6 then 30 else if m = 9 then 30 else if m = 11 then 30 else 31
theorem rleap_any (y : Int) (w : World) : Calls Try.prog 84 #[.int .i64 y] w fun e w' => e = .returned (.bool (rleap y)) ∧ w = w' := by
  by_cases h1 : Int.tmod y 4 = 0
  · have e1 : (Int.tmod y 4 == 0) = true := by simp [h1]
    by_cases h2 : Int.tmod y 100 = 0
    · have e2 : (Int.tmod y 100 != 0) = false := by simp [h2]
      clear h1 h2
      go_enter Try.func84, Try.ntmps84
      go_wp2
      go_ret
      exact ⟨by simp [rleap, e1, e2], rfl⟩
    · have e2 : (Int.tmod y 100 != 0) = true := by simp [h2]
      clear h1 h2
      go_enter Try.func84, Try.ntmps84
      go_wp2
      go_ret
      exact ⟨by simp [rleap, e1, e2], rfl⟩
  · have e1 : (Int.tmod y 4 == 0) = false := by simp [h1]
    clear h1
    go_enter Try.func84, Try.ntmps84
    go_wp2
    go_ret
    exact ⟨by simp [rleap, e1], rfl⟩
theorem rdays_any (y m : Int) (w : World) : Calls Try.prog 76 #[.int .i64 y, .int .i64 m] w fun e w' => e = .returned (.int .i64 (rdays y m)) ∧ w = w' := by
  unfold rdays
  by_cases h2 : m = 2
  · subst h2
    rw [if_pos rfl]
    cases h : rleap y
    all_goals
      go_enter Try.func76, Try.ntmps76
      go_wp2_with (go_at_call 84; refine (rleap_any _ _).mono ?_; rintro e w' ⟨rfl, rfl⟩)
      go_ret
      exact ⟨rfl, rfl⟩
  · rw [if_neg h2]
    have e2 : (m == 2) = false := by simp [h2]
    by_cases h4 : m = 4
    · subst h4
      go_enter Try.func76, Try.ntmps76
      go_wp2
      go_ret
      exact ⟨rfl, rfl⟩
    · by_cases h6 : m = 6
      · subst h6
        go_enter Try.func76, Try.ntmps76
        go_wp2
        go_ret
        exact ⟨rfl, rfl⟩
      · by_cases h9 : m = 9
        · subst h9
          go_enter Try.func76, Try.ntmps76
          go_wp2
          go_ret
          exact ⟨rfl, rfl⟩
        · by_cases h11 : m = 11
          · subst h11
            go_enter Try.func76, Try.ntmps76
            go_wp2
            go_ret
            exact ⟨rfl, rfl⟩
          · have e4 : (m == 4) = false := by simp [h4]
            have e6 : (m == 6) = false := by simp [h6]
            have e9 : (m == 9) = false := by simp [h9]
            have e11 : (m == 11) = false := by simp [h11]
            rw [if_neg h4, if_neg h6, if_neg h9, if_neg h11]
            clear h2 h4 h6 h9 h11
            go_enter Try.func76, Try.ntmps76
            go_wp2
            go_ret
            exact ⟨rfl, rfl⟩

set_option maxRecDepth 100000 in
set_option maxHeartbeats 4000000 in
theorem rvalid0 (y mo d h mi s : Int) (w : World)  (c0 : decide (1900 ≤ y) = false) :
    Calls Try.prog 56 #[.agg #[.int .i64 y, .int .i64 mo, .int .i64 d, .int .i64 h, .int .i64 mi, .int .i64 s]] w fun e w' => e = .returned (.bool false) ∧ Below w.heap.size w w' := by
  go_enter Try.func56, Try.ntmps56
  go_wp2_with fail
  go_quiet ((go_at_call 76; exact Calls.quiet_of_same ((rdays_any _ _ _).mono fun e w' h => ⟨h.1, h.2.symm⟩)))
  go_wp2
  go_ret
  exact ⟨rfl, below_drewN ((Below.refl _ _).alloc (Nat.le_refl _) _) _⟩

set_option maxRecDepth 100000 in
set_option maxHeartbeats 4000000 in
theorem rvalid1 (y mo d h mi s : Int) (w : World) (c0 : decide (1900 ≤ y) = true) (c1 : decide (y ≤ 2155) = false) :
    Calls Try.prog 56 #[.agg #[.int .i64 y, .int .i64 mo, .int .i64 d, .int .i64 h, .int .i64 mi, .int .i64 s]] w fun e w' => e = .returned (.bool false) ∧ Below w.heap.size w w' := by
  go_enter Try.func56, Try.ntmps56
  go_wp2_with fail
  go_quiet ((go_at_call 76; exact Calls.quiet_of_same ((rdays_any _ _ _).mono fun e w' h => ⟨h.1, h.2.symm⟩)))
  go_wp2
  go_ret
  exact ⟨rfl, below_drewN ((Below.refl _ _).alloc (Nat.le_refl _) _) _⟩

set_option maxRecDepth 100000 in
set_option maxHeartbeats 4000000 in
theorem rvalid2 (y mo d h mi s : Int) (w : World) (c0 : decide (1900 ≤ y) = true) (c1 : decide (y ≤ 2155) = true) (c2 : decide (1 ≤ mo) = false) :
    Calls Try.prog 56 #[.agg #[.int .i64 y, .int .i64 mo, .int .i64 d, .int .i64 h, .int .i64 mi, .int .i64 s]] w fun e w' => e = .returned (.bool false) ∧ Below w.heap.size w w' := by
  go_enter Try.func56, Try.ntmps56
  go_wp2_with fail
  go_quiet ((go_at_call 76; exact Calls.quiet_of_same ((rdays_any _ _ _).mono fun e w' h => ⟨h.1, h.2.symm⟩)))
  go_wp2
  go_ret
  exact ⟨rfl, below_drewN ((Below.refl _ _).alloc (Nat.le_refl _) _) _⟩

set_option maxRecDepth 100000 in
set_option maxHeartbeats 4000000 in
theorem rvalid3 (y mo d h mi s : Int) (w : World) (c0 : decide (1900 ≤ y) = true) (c1 : decide (y ≤ 2155) = true) (c2 : decide (1 ≤ mo) = true) (c3 : decide (mo ≤ 12) = false) :
    Calls Try.prog 56 #[.agg #[.int .i64 y, .int .i64 mo, .int .i64 d, .int .i64 h, .int .i64 mi, .int .i64 s]] w fun e w' => e = .returned (.bool false) ∧ Below w.heap.size w w' := by
  go_enter Try.func56, Try.ntmps56
  go_wp2_with fail
  go_quiet ((go_at_call 76; exact Calls.quiet_of_same ((rdays_any _ _ _).mono fun e w' h => ⟨h.1, h.2.symm⟩)))
  go_wp2
  go_ret
  exact ⟨rfl, below_drewN ((Below.refl _ _).alloc (Nat.le_refl _) _) _⟩

set_option maxRecDepth 100000 in
set_option maxHeartbeats 4000000 in
theorem rvalid4 (y mo d h mi s : Int) (w : World) (c0 : decide (1900 ≤ y) = true) (c1 : decide (y ≤ 2155) = true) (c2 : decide (1 ≤ mo) = true) (c3 : decide (mo ≤ 12) = true) (c4 : decide (1 ≤ d) = false) :
    Calls Try.prog 56 #[.agg #[.int .i64 y, .int .i64 mo, .int .i64 d, .int .i64 h, .int .i64 mi, .int .i64 s]] w fun e w' => e = .returned (.bool false) ∧ Below w.heap.size w w' := by
  go_enter Try.func56, Try.ntmps56
  go_wp2_with fail
  go_quiet ((go_at_call 76; exact Calls.quiet_of_same ((rdays_any _ _ _).mono fun e w' h => ⟨h.1, h.2.symm⟩)))
  go_wp2
  go_ret
  exact ⟨rfl, below_drewN ((Below.refl _ _).alloc (Nat.le_refl _) _) _⟩

set_option maxRecDepth 100000 in
set_option maxHeartbeats 4000000 in
theorem rvalid5 (y mo d h mi s : Int) (w : World) (c0 : decide (1900 ≤ y) = true) (c1 : decide (y ≤ 2155) = true) (c2 : decide (1 ≤ mo) = true) (c3 : decide (mo ≤ 12) = true) (c4 : decide (1 ≤ d) = true) (c5 : decide (d ≤ rdays y mo) = false) :
    Calls Try.prog 56 #[.agg #[.int .i64 y, .int .i64 mo, .int .i64 d, .int .i64 h, .int .i64 mi, .int .i64 s]] w fun e w' => e = .returned (.bool false) ∧ Below w.heap.size w w' := by
  go_enter Try.func56, Try.ntmps56
  go_wp2_with fail
  go_quiet ((go_at_call 76; exact Calls.quiet_of_same ((rdays_any _ _ _).mono fun e w' h => ⟨h.1, h.2.symm⟩)))
  go_wp2
  go_ret
  exact ⟨rfl, below_drewN ((Below.refl _ _).alloc (Nat.le_refl _) _) _⟩

set_option maxRecDepth 100000 in
set_option maxHeartbeats 4000000 in
theorem rvalid6 (y mo d h mi s : Int) (w : World) (c0 : decide (1900 ≤ y) = true) (c1 : decide (y ≤ 2155) = true) (c2 : decide (1 ≤ mo) = true) (c3 : decide (mo ≤ 12) = true) (c4 : decide (1 ≤ d) = true) (c5 : decide (d ≤ rdays y mo) = true) (c6 : decide (0 ≤ h) = false) :
    Calls Try.prog 56 #[.agg #[.int .i64 y, .int .i64 mo, .int .i64 d, .int .i64 h, .int .i64 mi, .int .i64 s]] w fun e w' => e = .returned (.bool false) ∧ Below w.heap.size w w' := by
  go_enter Try.func56, Try.ntmps56
  go_wp2_with fail
  go_quiet ((go_at_call 76; exact Calls.quiet_of_same ((rdays_any _ _ _).mono fun e w' h => ⟨h.1, h.2.symm⟩)))
  go_wp2
  go_ret
  exact ⟨rfl, below_drewN ((Below.refl _ _).alloc (Nat.le_refl _) _) _⟩

set_option maxRecDepth 100000 in
set_option maxHeartbeats 4000000 in
theorem rvalid7 (y mo d h mi s : Int) (w : World) (c0 : decide (1900 ≤ y) = true) (c1 : decide (y ≤ 2155) = true) (c2 : decide (1 ≤ mo) = true) (c3 : decide (mo ≤ 12) = true) (c4 : decide (1 ≤ d) = true) (c5 : decide (d ≤ rdays y mo) = true) (c6 : decide (0 ≤ h) = true) (c7 : decide (h ≤ 23) = false) :
    Calls Try.prog 56 #[.agg #[.int .i64 y, .int .i64 mo, .int .i64 d, .int .i64 h, .int .i64 mi, .int .i64 s]] w fun e w' => e = .returned (.bool false) ∧ Below w.heap.size w w' := by
  go_enter Try.func56, Try.ntmps56
  go_wp2_with fail
  go_quiet ((go_at_call 76; exact Calls.quiet_of_same ((rdays_any _ _ _).mono fun e w' h => ⟨h.1, h.2.symm⟩)))
  go_wp2
  go_ret
  exact ⟨rfl, below_drewN ((Below.refl _ _).alloc (Nat.le_refl _) _) _⟩

set_option maxRecDepth 100000 in
set_option maxHeartbeats 4000000 in
theorem rvalid8 (y mo d h mi s : Int) (w : World) (c0 : decide (1900 ≤ y) = true) (c1 : decide (y ≤ 2155) = true) (c2 : decide (1 ≤ mo) = true) (c3 : decide (mo ≤ 12) = true) (c4 : decide (1 ≤ d) = true) (c5 : decide (d ≤ rdays y mo) = true) (c6 : decide (0 ≤ h) = true) (c7 : decide (h ≤ 23) = true) (c8 : decide (0 ≤ mi) = false) :
    Calls Try.prog 56 #[.agg #[.int .i64 y, .int .i64 mo, .int .i64 d, .int .i64 h, .int .i64 mi, .int .i64 s]] w fun e w' => e = .returned (.bool false) ∧ Below w.heap.size w w' := by
  go_enter Try.func56, Try.ntmps56
  go_wp2_with fail
  go_quiet ((go_at_call 76; exact Calls.quiet_of_same ((rdays_any _ _ _).mono fun e w' h => ⟨h.1, h.2.symm⟩)))
  go_wp2
  go_ret
  exact ⟨rfl, below_drewN ((Below.refl _ _).alloc (Nat.le_refl _) _) _⟩

set_option maxRecDepth 100000 in
set_option maxHeartbeats 4000000 in
theorem rvalid9 (y mo d h mi s : Int) (w : World) (c0 : decide (1900 ≤ y) = true) (c1 : decide (y ≤ 2155) = true) (c2 : decide (1 ≤ mo) = true) (c3 : decide (mo ≤ 12) = true) (c4 : decide (1 ≤ d) = true) (c5 : decide (d ≤ rdays y mo) = true) (c6 : decide (0 ≤ h) = true) (c7 : decide (h ≤ 23) = true) (c8 : decide (0 ≤ mi) = true) (c9 : decide (mi ≤ 59) = false) :
    Calls Try.prog 56 #[.agg #[.int .i64 y, .int .i64 mo, .int .i64 d, .int .i64 h, .int .i64 mi, .int .i64 s]] w fun e w' => e = .returned (.bool false) ∧ Below w.heap.size w w' := by
  go_enter Try.func56, Try.ntmps56
  go_wp2_with fail
  go_quiet ((go_at_call 76; exact Calls.quiet_of_same ((rdays_any _ _ _).mono fun e w' h => ⟨h.1, h.2.symm⟩)))
  go_wp2
  go_ret
  exact ⟨rfl, below_drewN ((Below.refl _ _).alloc (Nat.le_refl _) _) _⟩

set_option maxRecDepth 100000 in
set_option maxHeartbeats 4000000 in
theorem rvalid10 (y mo d h mi s : Int) (w : World) (c0 : decide (1900 ≤ y) = true) (c1 : decide (y ≤ 2155) = true) (c2 : decide (1 ≤ mo) = true) (c3 : decide (mo ≤ 12) = true) (c4 : decide (1 ≤ d) = true) (c5 : decide (d ≤ rdays y mo) = true) (c6 : decide (0 ≤ h) = true) (c7 : decide (h ≤ 23) = true) (c8 : decide (0 ≤ mi) = true) (c9 : decide (mi ≤ 59) = true) (c10 : decide (0 ≤ s) = false) :
    Calls Try.prog 56 #[.agg #[.int .i64 y, .int .i64 mo, .int .i64 d, .int .i64 h, .int .i64 mi, .int .i64 s]] w fun e w' => e = .returned (.bool false) ∧ Below w.heap.size w w' := by
  go_enter Try.func56, Try.ntmps56
  go_wp2_with fail
  go_quiet ((go_at_call 76; exact Calls.quiet_of_same ((rdays_any _ _ _).mono fun e w' h => ⟨h.1, h.2.symm⟩)))
  go_wp2
  go_ret
  exact ⟨rfl, below_drewN ((Below.refl _ _).alloc (Nat.le_refl _) _) _⟩

set_option maxRecDepth 100000 in
set_option maxHeartbeats 4000000 in
theorem rvalid11 (y mo d h mi s : Int) (w : World) (c0 : decide (1900 ≤ y) = true) (c1 : decide (y ≤ 2155) = true) (c2 : decide (1 ≤ mo) = true) (c3 : decide (mo ≤ 12) = true) (c4 : decide (1 ≤ d) = true) (c5 : decide (d ≤ rdays y mo) = true) (c6 : decide (0 ≤ h) = true) (c7 : decide (h ≤ 23) = true) (c8 : decide (0 ≤ mi) = true) (c9 : decide (mi ≤ 59) = true) (c10 : decide (0 ≤ s) = true) :
    Calls Try.prog 56 #[.agg #[.int .i64 y, .int .i64 mo, .int .i64 d, .int .i64 h, .int .i64 mi, .int .i64 s]] w fun e w' => e = .returned (.bool (decide (s ≤ 59))) ∧ Below w.heap.size w w' := by
  go_enter Try.func56, Try.ntmps56
  go_wp2_with fail
  go_quiet ((go_at_call 76; exact Calls.quiet_of_same ((rdays_any _ _ _).mono fun e w' h => ⟨h.1, h.2.symm⟩)))
  go_wp2
  go_ret
  exact ⟨rfl, below_drewN ((Below.refl _ _).alloc (Nat.le_refl _) _) _⟩

/-- masterdiscref16.Valid. -/
def masterdiscref16_Valid.f (a0_0 a0_1 a0_2 a0_3 a0_4 a0_5 : Int) : Option Bool := some (decide (1900 ≤ a0_0) && (decide (a0_0 ≤ 2155) && (decide (1 ≤ a0_1) && (decide (a0_1 ≤ 12) && (decide (1 ≤ a0_2) && (decide (a0_2 ≤ rdays a0_0 a0_1) && (decide (0 ≤ a0_3) && (decide (a0_3 ≤ 23) && (decide (0 ≤ a0_4) && (decide (a0_4 ≤ 59) && (decide (0 ≤ a0_5) && (decide (a0_5 ≤ 59)))))))))))))
theorem masterdiscref16_Valid.calls (a0_0 a0_1 a0_2 a0_3 a0_4 a0_5 : Int) (r : Bool) (w : World) (hr : masterdiscref16_Valid.f a0_0 a0_1 a0_2 a0_3 a0_4 a0_5 = some r) :
    Calls Try.prog 56 #[.agg #[.int .i64 a0_0, .int .i64 a0_1, .int .i64 a0_2, .int .i64 a0_3, .int .i64 a0_4, .int .i64 a0_5]] w fun e w' => e = .returned (.bool r) ∧ Below w.heap.size w w' := by
  obtain rfl := Option.some.inj hr
  cases c0 : decide (1900 ≤ a0_0)
  · simp only [Bool.false_and, Bool.true_and]
    exact rvalid0 a0_0 a0_1 a0_2 a0_3 a0_4 a0_5 w c0
  cases c1 : decide (a0_0 ≤ 2155)
  · simp only [Bool.false_and, Bool.true_and]
    exact rvalid1 a0_0 a0_1 a0_2 a0_3 a0_4 a0_5 w c0 c1
  cases c2 : decide (1 ≤ a0_1)
  · simp only [Bool.false_and, Bool.true_and]
    exact rvalid2 a0_0 a0_1 a0_2 a0_3 a0_4 a0_5 w c0 c1 c2
  cases c3 : decide (a0_1 ≤ 12)
  · simp only [Bool.false_and, Bool.true_and]
    exact rvalid3 a0_0 a0_1 a0_2 a0_3 a0_4 a0_5 w c0 c1 c2 c3
  cases c4 : decide (1 ≤ a0_2)
  · simp only [Bool.false_and, Bool.true_and]
    exact rvalid4 a0_0 a0_1 a0_2 a0_3 a0_4 a0_5 w c0 c1 c2 c3 c4
  cases c5 : decide (a0_2 ≤ rdays a0_0 a0_1)
  · simp only [Bool.false_and, Bool.true_and]
    exact rvalid5 a0_0 a0_1 a0_2 a0_3 a0_4 a0_5 w c0 c1 c2 c3 c4 c5
  cases c6 : decide (0 ≤ a0_3)
  · simp only [Bool.false_and, Bool.true_and]
    exact rvalid6 a0_0 a0_1 a0_2 a0_3 a0_4 a0_5 w c0 c1 c2 c3 c4 c5 c6
  cases c7 : decide (a0_3 ≤ 23)
  · simp only [Bool.false_and, Bool.true_and]
    exact rvalid7 a0_0 a0_1 a0_2 a0_3 a0_4 a0_5 w c0 c1 c2 c3 c4 c5 c6 c7
  cases c8 : decide (0 ≤ a0_4)
  · simp only [Bool.false_and, Bool.true_and]
    exact rvalid8 a0_0 a0_1 a0_2 a0_3 a0_4 a0_5 w c0 c1 c2 c3 c4 c5 c6 c7 c8
  cases c9 : decide (a0_4 ≤ 59)
  · simp only [Bool.false_and, Bool.true_and]
    exact rvalid9 a0_0 a0_1 a0_2 a0_3 a0_4 a0_5 w c0 c1 c2 c3 c4 c5 c6 c7 c8 c9
  cases c10 : decide (0 ≤ a0_5)
  · simp only [Bool.false_and, Bool.true_and]
    exact rvalid10 a0_0 a0_1 a0_2 a0_3 a0_4 a0_5 w c0 c1 c2 c3 c4 c5 c6 c7 c8 c9 c10
  simp only [Bool.true_and]
  exact rvalid11 a0_0 a0_1 a0_2 a0_3 a0_4 a0_5 w c0 c1 c2 c3 c4 c5 c6 c7 c8 c9 c10

end Go.Proofs.Ytagnefbgclpccaa.H
