-- Written by a program of this session's, hprint.py, out of the translation. Not trusted: Lean checks it.
import Derived.Test.YtagnefbgclpccaaAx0
namespace Go.Proofs.Ytagnefbgclpccaa.A
open Go.RowKit Go.Proofs.Ytagnefbgclpccaa.H Go.Proofs.YtagnefbgclpccaaW.PrintWords Go.Proofs.YtagnefbgclpccaaW.PrintLast Go.Proofs.YtagnefbgclpccaaW.PrintMore
attribute [local go_sem] max2_int min2_int max_two min_two max_three min_three max_four min_four   -- for this text's walks alone
set_option linter.unusedVariables false
set_option linter.unusedSimpArgs false

/-! ### masterdiscref20_Size: function 14 -/
def masterdiscref20_Size.j0 : Nat → Int → Int → Bool → Option (Int)
  | 0, _, _, _ => none
  | k + 1, x0, x1, x24 => if x24 = true then (some 0) else (if (Int.tmod x0 2) = 0 then (if (wrap64 ((wrap64 ((wrap64 (33 + x0)) + x1)) + 1)) > 254 then (some 0) else (some (wrap64 ((wrap64 ((wrap64 (33 + x0)) + x1)) + 1)))) else (if (wrap64 ((wrap64 (33 + x0)) + x1)) > 254 then (some 0) else (some (wrap64 ((wrap64 (33 + x0)) + x1)))))
def masterdiscref20_Size.f (k : Nat) (a0 : Int) (a1 : Int) : Option (Int) := if a0 < 1 then (masterdiscref20_Size.j0 k a0 a1 true) else (if a0 > 254 then (masterdiscref20_Size.j0 k a0 a1 true) else (if a1 < 0 then (masterdiscref20_Size.j0 k a0 a1 true) else (if a1 > 254 then (masterdiscref20_Size.j0 k a0 a1 true) else (masterdiscref20_Size.j0 k a0 a1 ((Int.tmod a1 2) == 1)))))
set_option maxHeartbeats 8000000 in
set_option maxRecDepth 100000 in
theorem masterdiscref20_Size.calls (k : Nat) (a0 : Int) (a1 : Int) (r : Int) (w : World) (h : masterdiscref20_Size.f k a0 a1 = some r) :
    Calls Try.prog 14 #[.int .i64 a0, .int .i64 a1] w fun e w' => e = .returned (.int .i64 r) ∧ Drawn0 w w' := by
  have H : (if a0 < 1 then (masterdiscref20_Size.j0 k a0 a1 true) else (if a0 > 254 then (masterdiscref20_Size.j0 k a0 a1 true) else (if a1 < 0 then (masterdiscref20_Size.j0 k a0 a1 true) else (if a1 > 254 then (masterdiscref20_Size.j0 k a0 a1 true) else (masterdiscref20_Size.j0 k a0 a1 ((Int.tmod a1 2) == 1)))))) = some r := h
  clear h
  have HC3 := Aside0.mk H
  clear H
  go_enter Try.func14, Try.ntmps14
  go_upto_region 1 with (fail)
  go_cut [24] (fun v24 wc => ∃ (kq : Nat) (x24_2 : Bool), v24 = .bool x24_2 ∧ Aside0 (masterdiscref20_Size.j0 kq a0 a1 x24_2 = some r) ∧ Aside0 (kq ≤ k) ∧ Drawn0 w wc)
  case first =>
    have H := HC3.out
    clear HC3
    by_cases c4 : a0 < 1
    · rw [if_pos c4] at H
      have c4b0 : decide (a0 < 1) = true := decide_eq_true c4
      clear c4
      (first | rw [c4b0] | (simp only [i64_w, i32_w]; rw [c4b0]) | skip)
      have H' := Aside0.mk H
      clear H
      go_wp2
      go_meet
      case rel => exact ⟨_, (true), (by first | rfl | (simp; done) | (simp [*]; done)), H', ⟨by first | omega | exact Nat.le_refl _⟩, by repeat (first | exact Drawn0.refl _ | apply Drawn0.step)⟩
    · rw [if_neg c4] at H
      have c4b0 : decide (a0 < 1) = false := decide_eq_false c4
      clear c4
      (first | rw [c4b0] | (simp only [i64_w, i32_w]; rw [c4b0]) | skip)
      by_cases c5 : a0 > 254
      · rw [if_pos c5] at H
        have c5b0 : decide (254 < a0) = true := decide_eq_true c5
        clear c5
        have H' := Aside0.mk H
        clear H
        go_wp2
        go_meet
        case rel => exact ⟨_, (true), (by first | rfl | (simp; done) | (simp [*]; done)), H', ⟨by first | omega | exact Nat.le_refl _⟩, by repeat (first | exact Drawn0.refl _ | apply Drawn0.step)⟩
      · rw [if_neg c5] at H
        have c5b0 : decide (254 < a0) = false := decide_eq_false c5
        clear c5
        by_cases c6 : a1 < 0
        · rw [if_pos c6] at H
          have c6b0 : decide (a1 < 0) = true := decide_eq_true c6
          clear c6
          have H' := Aside0.mk H
          clear H
          go_wp2
          go_meet
          case rel => exact ⟨_, (true), (by first | rfl | (simp; done) | (simp [*]; done)), H', ⟨by first | omega | exact Nat.le_refl _⟩, by repeat (first | exact Drawn0.refl _ | apply Drawn0.step)⟩
        · rw [if_neg c6] at H
          have c6b0 : decide (a1 < 0) = false := decide_eq_false c6
          clear c6
          by_cases c7 : a1 > 254
          · rw [if_pos c7] at H
            have c7b0 : decide (254 < a1) = true := decide_eq_true c7
            clear c7
            have H' := Aside0.mk H
            clear H
            go_wp2
            go_meet
            case rel => exact ⟨_, (true), (by first | rfl | (simp; done) | (simp [*]; done)), H', ⟨by first | omega | exact Nat.le_refl _⟩, by repeat (first | exact Drawn0.refl _ | apply Drawn0.step)⟩
          · rw [if_neg c7] at H
            have c7b0 : decide (254 < a1) = false := decide_eq_false c7
            clear c7
            have H' := Aside0.mk H
            clear H
            go_wp2
            go_meet
            case rel => exact ⟨_, (((Int.tmod a1 2) == 1)), (by first | rfl | (simp; done) | (simp [*]; done)), H', ⟨by first | omega | exact Nat.le_refl _⟩, by repeat (first | exact Drawn0.refl _ | apply Drawn0.step)⟩
  case rest =>
    clear HC3
    try clear c1
    try clear p2
    try clear c4
    try clear c4b0
    try clear c5
    try clear c5b0
    try clear c6
    try clear c6b0
    try clear c7
    try clear c7b0
    obtain ⟨kq, x24_2, rfl, HA, HJ2, ⟨mc2, rfl⟩⟩ := hcut
    cases kq with
    | zero => exact absurd HA.out (by simp [masterdiscref20_Size.j0])
    | succ kj2 =>
      have H := HA.out
      clear HA
      simp only [masterdiscref20_Size.j0] at H
      by_cases c8 : x24_2 = true
      · subst c8
        have H1 : (some 0) = some r := by rw [if_pos rfl] at H; exact H
        clear H
        have H := H1
        clear H1
        obtain rfl := Option.some.inj H
        go_wp2
        go_ret
        exact ⟨by first | rfl | (simp; done) | (simp [*]; done), by repeat (first | exact Drawn0.refl _ | apply Drawn0.step)⟩
      · replace c8 := Bool.eq_false_iff.mpr c8
        subst c8
        have H1 : (if (Int.tmod a0 2) = 0 then (if (wrap64 ((wrap64 ((wrap64 (33 + a0)) + a1)) + 1)) > 254 then (some 0) else (some (wrap64 ((wrap64 ((wrap64 (33 + a0)) + a1)) + 1)))) else (if (wrap64 ((wrap64 (33 + a0)) + a1)) > 254 then (some 0) else (some (wrap64 ((wrap64 (33 + a0)) + a1))))) = some r := by rw [if_neg (show ¬ (false = true) by decide)] at H; exact H
        clear H
        have H := H1
        clear H1
        by_cases c9 : (Int.tmod a0 2) = 0
        · rw [if_pos c9] at H
          have c9b0 : ((Int.tmod a0 2) == 0) = true := beq_iff_eq.mpr c9
          have c9b1 : ((Int.tmod a0 2) != 0) = false := bne_eq_false_iff_eq.mpr c9
          clear c9
          by_cases c10 : (wrap64 ((wrap64 ((wrap64 (33 + a0)) + a1)) + 1)) > 254
          · rw [if_pos c10] at H
            have c10b0 : decide (254 < (wrap64 ((wrap64 ((wrap64 (33 + a0)) + a1)) + 1))) = true := decide_eq_true c10
            clear c10
            obtain rfl := Option.some.inj H
            go_wp2
            go_ret
            exact ⟨by first | rfl | (simp; done) | (simp [*]; done), by repeat (first | exact Drawn0.refl _ | apply Drawn0.step)⟩
          · rw [if_neg c10] at H
            have c10b0 : decide (254 < (wrap64 ((wrap64 ((wrap64 (33 + a0)) + a1)) + 1))) = false := decide_eq_false c10
            clear c10
            obtain rfl := Option.some.inj H
            go_wp2
            go_ret
            exact ⟨by first | rfl | (simp; done) | (simp [*]; done), by repeat (first | exact Drawn0.refl _ | apply Drawn0.step)⟩
        · rw [if_neg c9] at H
          have c9b0 : ((Int.tmod a0 2) == 0) = false := beq_eq_false_iff_ne.mpr c9
          have c9b1 : ((Int.tmod a0 2) != 0) = true := bne_iff_ne.mpr c9
          by_cases c11 : (wrap64 ((wrap64 (33 + a0)) + a1)) > 254
          · rw [if_pos c11] at H
            have c11b0 : decide (254 < (wrap64 ((wrap64 (33 + a0)) + a1))) = true := decide_eq_true c11
            clear c11
            obtain rfl := Option.some.inj H
            go_wp2
            go_ret
            exact ⟨by first | rfl | (simp; done) | (simp [*]; done), by repeat (first | exact Drawn0.refl _ | apply Drawn0.step)⟩
          · rw [if_neg c11] at H
            have c11b0 : decide (254 < (wrap64 ((wrap64 (33 + a0)) + a1))) = false := decide_eq_false c11
            clear c11
            obtain rfl := Option.some.inj H
            go_wp2
            go_ret
            exact ⟨by first | rfl | (simp; done) | (simp [*]; done), by repeat (first | exact Drawn0.refl _ | apply Drawn0.step)⟩

/-! ### masterdiscref16_Time: function 47 -/
def masterdiscref16_Time.f (a0 : Int) : Option (Bool) := if a0 ≥ 315532800 then (some (decide (a0 ≤ 4102444799))) else (some false)
set_option maxHeartbeats 8000000 in
set_option maxRecDepth 100000 in
theorem masterdiscref16_Time.calls (a0 : Int) (r : Bool) (w : World) (h : masterdiscref16_Time.f a0 = some r) :
    Calls Try.prog 47 #[.int .i64 a0] w fun e w' => e = .returned (.bool r) ∧ Drawn0 w w' := by
  have H : (if a0 ≥ 315532800 then (some (decide (a0 ≤ 4102444799))) else (some false)) = some r := h
  clear h
  by_cases c2 : a0 ≥ 315532800
  · rw [if_pos c2] at H
    have c2b0 : decide (315532800 ≤ a0) = true := decide_eq_true c2
    clear c2
    obtain rfl := Option.some.inj H
    go_enter Try.func47, Try.ntmps47
    go_wp2
    go_ret
    exact ⟨by first | rfl | (simp; done) | (simp [*]; done), by repeat (first | exact Drawn0.refl _ | apply Drawn0.step)⟩
  · rw [if_neg c2] at H
    have c2b0 : decide (315532800 ≤ a0) = false := decide_eq_false c2
    clear c2
    obtain rfl := Option.some.inj H
    go_enter Try.func47, Try.ntmps47
    go_wp2
    go_ret
    exact ⟨by first | rfl | (simp; done) | (simp [*]; done), by repeat (first | exact Drawn0.refl _ | apply Drawn0.step)⟩

/-! ### masterdiscref16_Quarter: function 48 -/
def masterdiscref16_Quarter.f (a0 : Int) : Option (Bool) := if a0 ≥ (-720) then (if a0 ≤ 780 then (some ((Int.tmod a0 15) == 0)) else (some false)) else (some false)
set_option maxHeartbeats 8000000 in
set_option maxRecDepth 100000 in
theorem masterdiscref16_Quarter.calls (a0 : Int) (r : Bool) (w : World) (h : masterdiscref16_Quarter.f a0 = some r) :
    Calls Try.prog 48 #[.int .i64 a0] w fun e w' => e = .returned (.bool r) ∧ Drawn0 w w' := by
  have H : (if a0 ≥ (-720) then (if a0 ≤ 780 then (some ((Int.tmod a0 15) == 0)) else (some false)) else (some false)) = some r := h
  clear h
  by_cases c2 : a0 ≥ (-720)
  · rw [if_pos c2] at H
    have c2b0 : decide ((-720) ≤ a0) = true := decide_eq_true c2
    clear c2
    by_cases c3 : a0 ≤ 780
    · rw [if_pos c3] at H
      have c3b0 : decide (a0 ≤ 780) = true := decide_eq_true c3
      clear c3
      obtain rfl := Option.some.inj H
      go_enter Try.func48, Try.ntmps48
      go_wp2
      go_ret
      exact ⟨by first | rfl | (simp; done) | (simp [*]; done), by repeat (first | exact Drawn0.refl _ | apply Drawn0.step)⟩
    · rw [if_neg c3] at H
      have c3b0 : decide (a0 ≤ 780) = false := decide_eq_false c3
      clear c3
      obtain rfl := Option.some.inj H
      go_enter Try.func48, Try.ntmps48
      go_wp2
      go_ret
      exact ⟨by first | rfl | (simp; done) | (simp [*]; done), by repeat (first | exact Drawn0.refl _ | apply Drawn0.step)⟩
  · rw [if_neg c2] at H
    have c2b0 : decide ((-720) ≤ a0) = false := decide_eq_false c2
    clear c2
    obtain rfl := Option.some.inj H
    go_enter Try.func48, Try.ntmps48
    go_wp2
    go_ret
    exact ⟨by first | rfl | (simp; done) | (simp [*]; done), by repeat (first | exact Drawn0.refl _ | apply Drawn0.step)⟩

/-! ### masterdiscref16_Zone: function 71 -/
def masterdiscref16_Zone.f (a0 : Int) : Option (Bool) := if a0 ≥ (-1440) then (some (decide (a0 ≤ 1440))) else (some false)
set_option maxHeartbeats 8000000 in
set_option maxRecDepth 100000 in
theorem masterdiscref16_Zone.calls (a0 : Int) (r : Bool) (w : World) (h : masterdiscref16_Zone.f a0 = some r) :
    Calls Try.prog 71 #[.int .i64 a0] w fun e w' => e = .returned (.bool r) ∧ Drawn0 w w' := by
  have H : (if a0 ≥ (-1440) then (some (decide (a0 ≤ 1440))) else (some false)) = some r := h
  clear h
  by_cases c2 : a0 ≥ (-1440)
  · rw [if_pos c2] at H
    have c2b0 : decide ((-1440) ≤ a0) = true := decide_eq_true c2
    clear c2
    obtain rfl := Option.some.inj H
    go_enter Try.func71, Try.ntmps71
    go_wp2
    go_ret
    exact ⟨by first | rfl | (simp; done) | (simp [*]; done), by repeat (first | exact Drawn0.refl _ | apply Drawn0.step)⟩
  · rw [if_neg c2] at H
    have c2b0 : decide ((-1440) ≤ a0) = false := decide_eq_false c2
    clear c2
    obtain rfl := Option.some.inj H
    go_enter Try.func71, Try.ntmps71
    go_wp2
    go_ret
    exact ⟨by first | rfl | (simp; done) | (simp [*]; done), by repeat (first | exact Drawn0.refl _ | apply Drawn0.step)⟩

/-! ### masterdiscref16_leap: function 84 -/
def masterdiscref16_leap.f (a0 : Int) : Option (Bool) := if (Int.tmod a0 4) = 0 then (if (Int.tmod a0 100) = 0 then (some ((Int.tmod a0 400) == 0)) else (some true)) else (some false)
set_option maxHeartbeats 8000000 in
set_option maxRecDepth 100000 in
theorem masterdiscref16_leap.calls (a0 : Int) (r : Bool) (w : World) (h : masterdiscref16_leap.f a0 = some r) :
    Calls Try.prog 84 #[.int .i64 a0] w fun e w' => e = .returned (.bool r) ∧ Drawn0 w w' := by
  have H : (if (Int.tmod a0 4) = 0 then (if (Int.tmod a0 100) = 0 then (some ((Int.tmod a0 400) == 0)) else (some true)) else (some false)) = some r := h
  clear h
  by_cases c2 : (Int.tmod a0 4) = 0
  · rw [if_pos c2] at H
    have c2b0 : ((Int.tmod a0 4) == 0) = true := beq_iff_eq.mpr c2
    have c2b1 : ((Int.tmod a0 4) != 0) = false := bne_eq_false_iff_eq.mpr c2
    clear c2
    by_cases c3 : (Int.tmod a0 100) = 0
    · rw [if_pos c3] at H
      have c3b0 : ((Int.tmod a0 100) == 0) = true := beq_iff_eq.mpr c3
      have c3b1 : ((Int.tmod a0 100) != 0) = false := bne_eq_false_iff_eq.mpr c3
      clear c3
      obtain rfl := Option.some.inj H
      go_enter Try.func84, Try.ntmps84
      go_wp2
      go_ret
      exact ⟨by first | rfl | (simp; done) | (simp [*]; done), by repeat (first | exact Drawn0.refl _ | apply Drawn0.step)⟩
    · rw [if_neg c3] at H
      have c3b0 : ((Int.tmod a0 100) == 0) = false := beq_eq_false_iff_ne.mpr c3
      have c3b1 : ((Int.tmod a0 100) != 0) = true := bne_iff_ne.mpr c3
      obtain rfl := Option.some.inj H
      go_enter Try.func84, Try.ntmps84
      go_wp2
      go_ret
      exact ⟨by first | rfl | (simp; done) | (simp [*]; done), by repeat (first | exact Drawn0.refl _ | apply Drawn0.step)⟩
  · rw [if_neg c2] at H
    have c2b0 : ((Int.tmod a0 4) == 0) = false := beq_eq_false_iff_ne.mpr c2
    have c2b1 : ((Int.tmod a0 4) != 0) = true := bne_iff_ne.mpr c2
    obtain rfl := Option.some.inj H
    go_enter Try.func84, Try.ntmps84
    go_wp2
    go_ret
    exact ⟨by first | rfl | (simp; done) | (simp [*]; done), by repeat (first | exact Drawn0.refl _ | apply Drawn0.step)⟩

/-! ### masterdiscref16_days: function 76 -/
def masterdiscref16_days.f (a0 : Int) (a1 : Int) : Option (Int) := if a1 = 2 then ((masterdiscref16_leap.f a0).bind fun t171 => (if t171 = true then (some 29) else (some 28))) else (if a1 = 4 then (some 30) else (if a1 = 6 then (some 30) else (if a1 = 9 then (some 30) else (if a1 = 11 then (some 30) else (some 31)))))
set_option maxHeartbeats 8000000 in
set_option maxRecDepth 100000 in
theorem masterdiscref16_days.calls0 (a0 : Int) (a1 : Int) (r : Int) (w : World) (h : masterdiscref16_days.f a0 a1 = some r) :
    Calls Try.prog 76 #[.int .i64 a0, .int .i64 a1] w fun e w' => e = .returned (.int .i64 r) ∧ Drawn0 w w' := by
  have H : (if a1 = 2 then ((masterdiscref16_leap.f a0).bind fun t171 => (if t171 = true then (some 29) else (some 28))) else (if a1 = 4 then (some 30) else (if a1 = 6 then (some 30) else (if a1 = 9 then (some 30) else (if a1 = 11 then (some 30) else (some 31)))))) = some r := h
  clear h
  by_cases c3 : a1 = 2
  · rw [if_pos c3] at H
    have c3b0 : (a1 == 2) = true := beq_iff_eq.mpr c3
    have c3b1 : (a1 != 2) = false := bne_eq_false_iff_eq.mpr c3
    clear c3
    replace H := Option.bind_eq_some_iff.mp H
    obtain ⟨t171, A40, H⟩ := H
    replace H : (if t171 = true then (some 29) else (some 28)) = some r := H
    have A4 := Aside0.mk A40
    clear A40
    by_cases c5 : t171 = true
    · subst c5
      have H1 : (some 29) = some r := by rw [if_pos rfl] at H; exact H
      clear H
      have H := H1
      clear H1
      obtain rfl := Option.some.inj H
      go_enter Try.func76, Try.ntmps76
      go_wp2_with (first | ((with_reducible refine gate_callee (f := 84) rfl ?_); refine goesL_ (some 8) rfl rfl Try.func84 (by kernel_rfl) rfl #[.int .i64 a0] rfl (by (try simp only [List.map_toArray, List.map_cons, List.map_nil]); first | done | rfl | (simp only [List.length_drop, List.length_take]; rfl)) ?_; (with_reducible refine (masterdiscref16_leap.calls a0 true _ A4.out).mono ?_); rintro e w' ⟨rfl, ⟨nd, rfl⟩⟩; refine ⟨_, rfl, ?_⟩))
      go_ret
      exact ⟨by first | rfl | (simp; done) | (simp [*]; done), by repeat (first | exact Drawn0.refl _ | apply Drawn0.step)⟩
    · replace c5 := Bool.eq_false_iff.mpr c5
      subst c5
      have H1 : (some 28) = some r := by rw [if_neg (show ¬ (false = true) by decide)] at H; exact H
      clear H
      have H := H1
      clear H1
      obtain rfl := Option.some.inj H
      go_enter Try.func76, Try.ntmps76
      go_wp2_with (first | ((with_reducible refine gate_callee (f := 84) rfl ?_); refine goesL_ (some 8) rfl rfl Try.func84 (by kernel_rfl) rfl #[.int .i64 a0] rfl (by (try simp only [List.map_toArray, List.map_cons, List.map_nil]); first | done | rfl | (simp only [List.length_drop, List.length_take]; rfl)) ?_; (with_reducible refine (masterdiscref16_leap.calls a0 false _ A4.out).mono ?_); rintro e w' ⟨rfl, ⟨nd, rfl⟩⟩; refine ⟨_, rfl, ?_⟩))
      go_ret
      exact ⟨by first | rfl | (simp; done) | (simp [*]; done), by repeat (first | exact Drawn0.refl _ | apply Drawn0.step)⟩
  · rw [if_neg c3] at H
    have c3b0 : (a1 == 2) = false := beq_eq_false_iff_ne.mpr c3
    have c3b1 : (a1 != 2) = true := bne_iff_ne.mpr c3
    by_cases c6 : a1 = 4
    · rw [if_pos c6] at H
      have c6b0 : (a1 == 4) = true := beq_iff_eq.mpr c6
      have c6b1 : (a1 != 4) = false := bne_eq_false_iff_eq.mpr c6
      clear c6
      obtain rfl := Option.some.inj H
      go_enter Try.func76, Try.ntmps76
      go_wp2
      go_ret
      exact ⟨by first | rfl | (simp; done) | (simp [*]; done), by repeat (first | exact Drawn0.refl _ | apply Drawn0.step)⟩
    · rw [if_neg c6] at H
      have c6b0 : (a1 == 4) = false := beq_eq_false_iff_ne.mpr c6
      have c6b1 : (a1 != 4) = true := bne_iff_ne.mpr c6
      by_cases c7 : a1 = 6
      · rw [if_pos c7] at H
        have c7b0 : (a1 == 6) = true := beq_iff_eq.mpr c7
        have c7b1 : (a1 != 6) = false := bne_eq_false_iff_eq.mpr c7
        clear c7
        obtain rfl := Option.some.inj H
        go_enter Try.func76, Try.ntmps76
        go_wp2
        go_ret
        exact ⟨by first | rfl | (simp; done) | (simp [*]; done), by repeat (first | exact Drawn0.refl _ | apply Drawn0.step)⟩
      · rw [if_neg c7] at H
        have c7b0 : (a1 == 6) = false := beq_eq_false_iff_ne.mpr c7
        have c7b1 : (a1 != 6) = true := bne_iff_ne.mpr c7
        by_cases c8 : a1 = 9
        · rw [if_pos c8] at H
          have c8b0 : (a1 == 9) = true := beq_iff_eq.mpr c8
          have c8b1 : (a1 != 9) = false := bne_eq_false_iff_eq.mpr c8
          clear c8
          obtain rfl := Option.some.inj H
          go_enter Try.func76, Try.ntmps76
          go_wp2
          go_ret
          exact ⟨by first | rfl | (simp; done) | (simp [*]; done), by repeat (first | exact Drawn0.refl _ | apply Drawn0.step)⟩
        · rw [if_neg c8] at H
          have c8b0 : (a1 == 9) = false := beq_eq_false_iff_ne.mpr c8
          have c8b1 : (a1 != 9) = true := bne_iff_ne.mpr c8
          by_cases c9 : a1 = 11
          · rw [if_pos c9] at H
            have c9b0 : (a1 == 11) = true := beq_iff_eq.mpr c9
            have c9b1 : (a1 != 11) = false := bne_eq_false_iff_eq.mpr c9
            clear c9
            obtain rfl := Option.some.inj H
            go_enter Try.func76, Try.ntmps76
            go_wp2
            go_ret
            exact ⟨by first | rfl | (simp; done) | (simp [*]; done), by repeat (first | exact Drawn0.refl _ | apply Drawn0.step)⟩
          · rw [if_neg c9] at H
            have c9b0 : (a1 == 11) = false := beq_eq_false_iff_ne.mpr c9
            have c9b1 : (a1 != 11) = true := bne_iff_ne.mpr c9
            obtain rfl := Option.some.inj H
            go_enter Try.func76, Try.ntmps76
            go_wp2
            go_ret
            exact ⟨by first | rfl | (simp; done) | (simp [*]; done), by repeat (first | exact Drawn0.refl _ | apply Drawn0.step)⟩

/-- The same, told as of a function that may make memory. -/
theorem masterdiscref16_days.calls (a0 : Int) (a1 : Int) (r : Int) (w : World) (h : masterdiscref16_days.f a0 a1 = some r) :
    Calls Try.prog 76 #[.int .i64 a0, .int .i64 a1] w fun e w' => e = .returned (.int .i64 r) ∧ Below w.heap.size w w' :=
  (masterdiscref16_days.calls0 a0 a1 r w h).mono fun _ _ h_ => ⟨h_.1, h_.2.below⟩

/-! ### masterdiscref16_year: function 79 -/
def masterdiscref16_year.f (a0 : Int) : Option (Int) := (masterdiscref16_leap.f a0).bind fun t172 => (if t172 = true then (some 366) else (some 365))
set_option maxHeartbeats 8000000 in
set_option maxRecDepth 100000 in
theorem masterdiscref16_year.calls0 (a0 : Int) (r : Int) (w : World) (h : masterdiscref16_year.f a0 = some r) :
    Calls Try.prog 79 #[.int .i64 a0] w fun e w' => e = .returned (.int .i64 r) ∧ Drawn0 w w' := by
  have H : ((masterdiscref16_leap.f a0).bind fun t172 => (if t172 = true then (some 366) else (some 365))) = some r := h
  clear h
  replace H := Option.bind_eq_some_iff.mp H
  obtain ⟨t172, A20, H⟩ := H
  replace H : (if t172 = true then (some 366) else (some 365)) = some r := H
  have A2 := Aside0.mk A20
  clear A20
  by_cases c3 : t172 = true
  · subst c3
    have H1 : (some 366) = some r := by rw [if_pos rfl] at H; exact H
    clear H
    have H := H1
    clear H1
    obtain rfl := Option.some.inj H
    go_enter Try.func79, Try.ntmps79
    go_wp2_with (first | ((with_reducible refine gate_callee (f := 84) rfl ?_); refine goesL_ (some 4) rfl rfl Try.func84 (by kernel_rfl) rfl #[.int .i64 a0] rfl (by (try simp only [List.map_toArray, List.map_cons, List.map_nil]); first | done | rfl | (simp only [List.length_drop, List.length_take]; rfl)) ?_; (with_reducible refine (masterdiscref16_leap.calls a0 true _ A2.out).mono ?_); rintro e w' ⟨rfl, ⟨nd, rfl⟩⟩; refine ⟨_, rfl, ?_⟩))
    go_ret
    exact ⟨by first | rfl | (simp; done) | (simp [*]; done), by repeat (first | exact Drawn0.refl _ | apply Drawn0.step)⟩
  · replace c3 := Bool.eq_false_iff.mpr c3
    subst c3
    have H1 : (some 365) = some r := by rw [if_neg (show ¬ (false = true) by decide)] at H; exact H
    clear H
    have H := H1
    clear H1
    obtain rfl := Option.some.inj H
    go_enter Try.func79, Try.ntmps79
    go_wp2_with (first | ((with_reducible refine gate_callee (f := 84) rfl ?_); refine goesL_ (some 4) rfl rfl Try.func84 (by kernel_rfl) rfl #[.int .i64 a0] rfl (by (try simp only [List.map_toArray, List.map_cons, List.map_nil]); first | done | rfl | (simp only [List.length_drop, List.length_take]; rfl)) ?_; (with_reducible refine (masterdiscref16_leap.calls a0 false _ A2.out).mono ?_); rintro e w' ⟨rfl, ⟨nd, rfl⟩⟩; refine ⟨_, rfl, ?_⟩))
    go_ret
    exact ⟨by first | rfl | (simp; done) | (simp [*]; done), by repeat (first | exact Drawn0.refl _ | apply Drawn0.step)⟩

/-- The same, told as of a function that may make memory. -/
theorem masterdiscref16_year.calls (a0 : Int) (r : Int) (w : World) (h : masterdiscref16_year.f a0 = some r) :
    Calls Try.prog 79 #[.int .i64 a0] w fun e w' => e = .returned (.int .i64 r) ∧ Below w.heap.size w w' :=
  (masterdiscref16_year.calls0 a0 r w h).mono fun _ _ h_ => ⟨h_.1, h_.2.below⟩

/-! ### masterdiscref16_utc: function 72 -/
mutual
def masterdiscref16_utc.l0 : Nat → Int → Int → Int → Int → Int → Int → Int → Int → Option (Int × Int × Int × Int × Int × Int)
  | 0, _, _, _, _, _, _, _, _ => none
  | k + 1, x0, x4, x175000, x175001, x175002, x175003, x175004, x175005 => (masterdiscref16_year.f x175000).bind fun t175 => (if x4 ≥ t175 then ((masterdiscref16_year.f x175000).bind fun t176 => (masterdiscref16_utc.l0 k x0 (wrap64 (x4 - t176)) (wrap64 (x175000 + 1)) x175001 x175002 x175003 x175004 x175005)) else (masterdiscref16_utc.l1 k x0 x4 x175000 x175001 x175002 x175003 x175004 x175005))
def masterdiscref16_utc.l1 : Nat → Int → Int → Int → Int → Int → Int → Int → Int → Option (Int × Int × Int × Int × Int × Int)
  | 0, _, _, _, _, _, _, _, _ => none
  | k + 1, x0, x4, x175000, x175001, x175002, x175003, x175004, x175005 => (masterdiscref16_days.f x175000 x175001).bind fun t177 => (if x4 ≥ t177 then ((masterdiscref16_days.f x175000 x175001).bind fun t178 => (masterdiscref16_utc.l1 k x0 (wrap64 (x4 - t178)) x175000 (wrap64 (x175001 + 1)) x175002 x175003 x175004 x175005)) else (some (x175000, x175001, wrap64 (1 + x4), wrap64 (Int.tdiv (Int.tmod x0 86400) 3600), Int.tmod (wrap64 (Int.tdiv (Int.tmod x0 86400) 60)) 60, Int.tmod x0 60)))
end
def masterdiscref16_utc.f (k : Nat) (a0 : Int) : Option (Int × Int × Int × Int × Int × Int) := masterdiscref16_utc.l0 k a0 (wrap64 (Int.tdiv a0 86400)) 1970 1 1 0 0 0
set_option maxHeartbeats 8000000 in
set_option maxRecDepth 100000 in
theorem masterdiscref16_utc.calls (k : Nat) (a0 : Int) (r1 : Int) (r2 : Int) (r3 : Int) (r4 : Int) (r5 : Int) (r6 : Int) (w : World) (h : masterdiscref16_utc.f k a0 = some (r1, r2, r3, r4, r5, r6)) :
    Calls Try.prog 72 #[.int .i64 a0] w fun e w' => e = .returned (.agg #[.int .i64 r1, .int .i64 r2, .int .i64 r3, .int .i64 r4, .int .i64 r5, .int .i64 r6]) ∧ Below w.heap.size w w' := by
  have hu67 := Try.underlying67
  have HB := Aside0.mk (Below.refl w.heap.size w)
  have H : (masterdiscref16_utc.l0 k a0 (wrap64 (Int.tdiv a0 86400)) 1970 1 1 0 0 0) = some (r1, r2, r3, r4, r5, r6) := h
  clear h
  have H' := Aside0.mk H
  clear H
  go_enter Try.func72, Try.ntmps72
  go_wp2_with (first | ((with_reducible refine gate_dst (N := 2) rfl ?_); refine box_event ?hg (N := 2) ?hd (cs := #[.int .i64 0, .int .i64 0, .int .i64 0, .int .i64 0, .int .i64 0, .int .i64 0]) (t := 67) ?hr ?_; (case hd => rfl); (case hg => rfl); (case hr => first | (go_simp; done) | (go_simp; rfl)); intro gb173 hg w2 hbox hb; have n0_ := Aside0.mk (below_step (by repeat (first | (with_reducible first | exact HB.out | apply below_alloc | apply pw_below_drewN | apply below_drew1) | exact HB.out)) hb); have n1_ := Aside0.mk (hbox); have n2_ := Aside0.mk ((by rw [hg]; exact (below_size (by repeat (first | (with_reducible first | exact HB.out | apply below_alloc | apply pw_below_drewN | apply below_drew1) | exact HB.out))) : w.heap.size ≤ gb173)); have n3_ := Aside0.mk ((by rw [hg]; exact (below_size (by repeat (first | (with_reducible first | exact HB.out | apply below_alloc | apply pw_below_drewN | apply below_drew1) | exact HB.out))) : w.heap.size ≤ gb173)); clear HB; have HB := n0_; have BK173 := n1_; have GW173 := n2_; have GE173 := n3_; clear n0_ n1_ n2_ n3_; clear hb hbox hg) | ((with_reducible refine gate_dst (N := 3) rfl ?_); refine box_event ?hg (N := 3) ?hd (cs := #[.int .i64 0, .int .i64 0, .int .i64 0, .int .i64 0, .int .i64 0, .int .i64 0]) (t := 67) ?hr ?_; (case hd => rfl); (case hg => rfl); (case hr => first | (go_simp; done) | (go_simp; rfl)); intro gb174 hg w3 hbox hb; have n0_ := Aside0.mk (blk_below (g := gb173) (o := .cells #[.int .i64 0, .int .i64 0, .int .i64 0, .int .i64 0, .int .i64 0, .int .i64 0] 67 (0, 0)) (by (with_reducible repeat (first | refine blk_drewN ?_ _ | refine blk_drew ?_ | refine blk_alloc ?_ _)); exact BK173.out) hb); have n1_ := Aside0.mk (below_step (by repeat (first | (with_reducible first | exact HB.out | apply below_alloc | apply pw_below_drewN | apply below_drew1 | refine below_set ?_ GE173.out) | exact HB.out)) hb); have n2_ := Aside0.mk (hbox); have n3_ := Aside0.mk ((by rw [hg]; exact (below_size (by repeat (first | (with_reducible first | exact HB.out | apply below_alloc | apply pw_below_drewN | apply below_drew1 | refine below_set ?_ GE173.out) | exact HB.out))) : w.heap.size ≤ gb174)); have n4_ := Aside0.mk ((by rw [hg]; exact (below_size (by repeat (first | (with_reducible first | exact HB.out | apply below_alloc | apply pw_below_drewN | apply below_drew1 | refine below_set ?_ GE173.out) | exact HB.out))) : w.heap.size ≤ gb174)); have n5_ := Aside0.mk ((by rw [hg]; exact Nat.ne_of_lt (blk_lt (g := gb173) (o := .cells #[.int .i64 0, .int .i64 0, .int .i64 0, .int .i64 0, .int .i64 0, .int .i64 0] 67 (0, 0)) (by (with_reducible repeat (first | refine blk_drewN ?_ _ | refine blk_drew ?_ | refine blk_alloc ?_ _)); exact BK173.out)) : gb173 ≠ gb174)); have n6_ := Aside0.mk ((by rw [hg]; exact Nat.ne_of_gt (blk_lt (g := gb173) (o := .cells #[.int .i64 0, .int .i64 0, .int .i64 0, .int .i64 0, .int .i64 0, .int .i64 0] 67 (0, 0)) (by (with_reducible repeat (first | refine blk_drewN ?_ _ | refine blk_drew ?_ | refine blk_alloc ?_ _)); exact BK173.out)) : gb174 ≠ gb173)); clear BK173; clear HB; have BK173 := n0_; have HB := n1_; have BK174 := n2_; have GW174 := n3_; have GE174 := n4_; have NB173_174 := n5_; have NB174_173 := n6_; clear n0_ n1_ n2_ n3_ n4_ n5_ n6_; clear hb hbox hg; have hnb4 := NB174_173.out; have hnc4 := NB173_174.out; have hcz5_0 : w3.cell? ⟨gb174, 0, none⟩ = some (.int .i64 0) := (blk_cell BK174.out 0).trans rfl; have hcz5_1 : w3.cell? ⟨gb174, 1, none⟩ = some (.int .i64 0) := (blk_cell BK174.out 1).trans rfl; have hcz5_2 : w3.cell? ⟨gb174, 2, none⟩ = some (.int .i64 0) := (blk_cell BK174.out 2).trans rfl; have hcz5_3 : w3.cell? ⟨gb174, 3, none⟩ = some (.int .i64 0) := (blk_cell BK174.out 3).trans rfl; have hcz5_4 : w3.cell? ⟨gb174, 4, none⟩ = some (.int .i64 0) := (blk_cell BK174.out 4).trans rfl; have hcz5_5 : w3.cell? ⟨gb174, 5, none⟩ = some (.int .i64 0) := (blk_cell BK174.out 5).trans rfl; have hfz5_0 := blk_frozen BK174.out 0; have hfz5_1 := blk_frozen BK174.out 1; have hfz5_2 := blk_frozen BK174.out 2; have hfz5_3 := blk_frozen BK174.out 3; have hfz5_4 := blk_frozen BK174.out 4; have hfz5_5 := blk_frozen BK174.out 5))
  go_loopg [4] k (fun kq v4 w' => ∃ (x4_1 : Int) (x175000_1 : Int), v4 = .int .i64 x4_1 ∧ Aside0 (masterdiscref16_utc.l0 kq a0 x4_1 x175000_1 1 1 0 0 0 = some (r1, r2, r3, r4, r5, r6)) ∧ Aside0 (kq ≤ k) ∧ Aside0 (w'.heap[gb173]? = some (.cells #[.int .i64 0, .int .i64 0, .int .i64 0, .int .i64 0, .int .i64 0, .int .i64 0] 67 (0, 0))) ∧ Aside0 (w'.heap[gb174]? = some (.cells #[.int .i64 x175000_1, .int .i64 1, .int .i64 1, .int .i64 0, .int .i64 0, .int .i64 0] 67 (0, 0))) ∧ Aside0 (Below w.heap.size w w'))
  case atStart => exact ⟨(wrap64 (Int.tdiv a0 86400)), (1970), (by first | rfl | (simp; done) | (simp [*]; done)), H', ⟨Nat.le_refl _⟩, ⟨by (with_reducible repeat (first | refine blk_drewN ?_ _ | refine blk_drew ?_ | refine blk_alloc ?_ _)); refine blk_far ?_ NB173_174.out _; (with_reducible repeat (first | refine blk_drewN ?_ _ | refine blk_drew ?_ | refine blk_alloc ?_ _)); refine blk_far ?_ NB173_174.out _; (with_reducible repeat (first | refine blk_drewN ?_ _ | refine blk_drew ?_ | refine blk_alloc ?_ _)); refine blk_far ?_ NB173_174.out _; (with_reducible repeat (first | refine blk_drewN ?_ _ | refine blk_drew ?_ | refine blk_alloc ?_ _)); refine blk_far ?_ NB173_174.out _; (with_reducible repeat (first | refine blk_drewN ?_ _ | refine blk_drew ?_ | refine blk_alloc ?_ _)); refine blk_far ?_ NB173_174.out _; (with_reducible repeat (first | refine blk_drewN ?_ _ | refine blk_drew ?_ | refine blk_alloc ?_ _)); refine blk_far ?_ NB173_174.out _; (with_reducible repeat (first | refine blk_drewN ?_ _ | refine blk_drew ?_ | refine blk_alloc ?_ _)); exact BK173.out⟩, ⟨by (with_reducible repeat (first | refine blk_drewN ?_ _ | refine blk_drew ?_ | refine blk_alloc ?_ _)); refine blk_put (cs := #[.int .i64 1970, .int .i64 1, .int .i64 1, .int .i64 0, .int .i64 0, .int .i64 0]) ?_ 5 _ rfl; (with_reducible repeat (first | refine blk_drewN ?_ _ | refine blk_drew ?_ | refine blk_alloc ?_ _)); refine blk_put (cs := #[.int .i64 1970, .int .i64 1, .int .i64 1, .int .i64 0, .int .i64 0, .int .i64 0]) ?_ 4 _ rfl; (with_reducible repeat (first | refine blk_drewN ?_ _ | refine blk_drew ?_ | refine blk_alloc ?_ _)); refine blk_put (cs := #[.int .i64 1970, .int .i64 1, .int .i64 1, .int .i64 0, .int .i64 0, .int .i64 0]) ?_ 3 _ rfl; (with_reducible repeat (first | refine blk_drewN ?_ _ | refine blk_drew ?_ | refine blk_alloc ?_ _)); refine blk_put (cs := #[.int .i64 1970, .int .i64 1, .int .i64 0, .int .i64 0, .int .i64 0, .int .i64 0]) ?_ 2 _ rfl; (with_reducible repeat (first | refine blk_drewN ?_ _ | refine blk_drew ?_ | refine blk_alloc ?_ _)); refine blk_put (cs := #[.int .i64 1970, .int .i64 0, .int .i64 0, .int .i64 0, .int .i64 0, .int .i64 0]) ?_ 1 _ rfl; (with_reducible repeat (first | refine blk_drewN ?_ _ | refine blk_drew ?_ | refine blk_alloc ?_ _)); refine blk_put (cs := #[.int .i64 0, .int .i64 0, .int .i64 0, .int .i64 0, .int .i64 0, .int .i64 0]) ?_ 0 _ rfl; (with_reducible repeat (first | refine blk_drewN ?_ _ | refine blk_drew ?_ | refine blk_alloc ?_ _)); exact BK174.out⟩, ⟨by repeat (first | (with_reducible first | exact HB.out | apply below_alloc | apply pw_below_drewN | apply below_drew1 | refine below_set ?_ GE173.out | refine below_set ?_ GE174.out) | exact HB.out)⟩⟩
  case round =>
    clear H'
    try clear p2
    try clear c4
    try clear hcz5_0
    try clear hcz5_1
    try clear hcz5_2
    try clear hcz5_3
    try clear hcz5_4
    try clear hcz5_5
    try clear hfz5_0
    try clear hfz5_1
    try clear hfz5_2
    try clear hfz5_3
    try clear hfz5_4
    try clear hfz5_5
    obtain ⟨x4_1, x175000_1, rfl, HA, HK1, BK173, BK174, HB⟩ := hrel
    cases gk with
    | zero => exact absurd HA.out (by simp [masterdiscref16_utc.l0])
    | succ k1 =>
      have H := HA.out
      clear HA
      simp only [masterdiscref16_utc.l0] at H
      replace H := Option.bind_eq_some_iff.mp H
      obtain ⟨t175, A60, H⟩ := H
      replace H : (if x4_1 ≥ t175 then ((masterdiscref16_year.f x175000_1).bind fun t176 => (masterdiscref16_utc.l0 k1 a0 (wrap64 (x4_1 - t176)) (wrap64 (x175000_1 + 1)) 1 1 0 0 0)) else (masterdiscref16_utc.l1 k1 a0 x4_1 x175000_1 1 1 0 0 0)) = some (r1, r2, r3, r4, r5, r6) := H
      have A6 := Aside0.mk A60
      clear A60
      by_cases c7 : x4_1 ≥ t175
      · rw [if_pos c7] at H
        have c7b0 : decide (t175 ≤ x4_1) = true := decide_eq_true c7
        clear c7
        replace H := Option.bind_eq_some_iff.mp H
        obtain ⟨t176, A80, H⟩ := H
        replace H : (masterdiscref16_utc.l0 k1 a0 (wrap64 (x4_1 - t176)) (wrap64 (x175000_1 + 1)) 1 1 0 0 0) = some (r1, r2, r3, r4, r5, r6) := H
        have A8 := Aside0.mk A80
        clear A80
        have H' := Aside0.mk H
        clear H
        have hnb9 := NB174_173.out
        have hnc9 := NB173_174.out
        have hcz10_0 : wr.cell? ⟨gb174, 0, none⟩ = some (.int .i64 x175000_1) := (blk_cell BK174.out 0).trans rfl
        have hcz10_1 : wr.cell? ⟨gb174, 1, none⟩ = some (.int .i64 1) := (blk_cell BK174.out 1).trans rfl
        have hcz10_2 : wr.cell? ⟨gb174, 2, none⟩ = some (.int .i64 1) := (blk_cell BK174.out 2).trans rfl
        have hcz10_3 : wr.cell? ⟨gb174, 3, none⟩ = some (.int .i64 0) := (blk_cell BK174.out 3).trans rfl
        have hcz10_4 : wr.cell? ⟨gb174, 4, none⟩ = some (.int .i64 0) := (blk_cell BK174.out 4).trans rfl
        have hcz10_5 : wr.cell? ⟨gb174, 5, none⟩ = some (.int .i64 0) := (blk_cell BK174.out 5).trans rfl
        have hfz10_0 := blk_frozen BK174.out 0
        have hfz10_1 := blk_frozen BK174.out 1
        have hfz10_2 := blk_frozen BK174.out 2
        have hfz10_3 := blk_frozen BK174.out 3
        have hfz10_4 := blk_frozen BK174.out 4
        have hfz10_5 := blk_frozen BK174.out 5
        go_wp2_with (first | ((with_reducible refine gate_callee (f := 79) rfl ?_); refine goesL_ (some 12) rfl rfl Try.func79 (by kernel_rfl) rfl #[.int .i64 x175000_1] rfl (by (try simp only [List.map_toArray, List.map_cons, List.map_nil]); first | done | rfl | (simp only [List.length_drop, List.length_take]; rfl)) ?_; (with_reducible refine (masterdiscref16_year.calls x175000_1 t175 _ A6.out).mono ?_); rintro e w11 ⟨rfl, hb⟩; refine ⟨_, rfl, ?_⟩; have n0_ := Aside0.mk (blk_below (g := gb173) (o := .cells #[.int .i64 0, .int .i64 0, .int .i64 0, .int .i64 0, .int .i64 0, .int .i64 0] 67 (0, 0)) (by (with_reducible repeat (first | refine blk_drewN ?_ _ | refine blk_drew ?_ | refine blk_alloc ?_ _)); exact BK173.out) hb); have n1_ := Aside0.mk (blk_below (g := gb174) (o := .cells #[.int .i64 x175000_1, .int .i64 1, .int .i64 1, .int .i64 0, .int .i64 0, .int .i64 0] 67 (0, 0)) (by (with_reducible repeat (first | refine blk_drewN ?_ _ | refine blk_drew ?_ | refine blk_alloc ?_ _)); exact BK174.out) hb); have n2_ := Aside0.mk (below_step (by repeat (first | (with_reducible first | exact HB.out | apply below_alloc | apply pw_below_drewN | apply below_drew1 | refine below_set ?_ GE173.out | refine below_set ?_ GE174.out) | exact HB.out)) hb); clear BK173; clear BK174; clear HB; have BK173 := n0_; have BK174 := n1_; have HB := n2_; clear n0_ n1_ n2_; (try clear hb); (try clear hb2); (try clear hk); (try clear hi); have hcz12_0 : w11.cell? ⟨gb174, 0, none⟩ = some (.int .i64 x175000_1) := (blk_cell BK174.out 0).trans rfl; have hcz12_1 : w11.cell? ⟨gb174, 1, none⟩ = some (.int .i64 1) := (blk_cell BK174.out 1).trans rfl; have hcz12_2 : w11.cell? ⟨gb174, 2, none⟩ = some (.int .i64 1) := (blk_cell BK174.out 2).trans rfl; have hcz12_3 : w11.cell? ⟨gb174, 3, none⟩ = some (.int .i64 0) := (blk_cell BK174.out 3).trans rfl; have hcz12_4 : w11.cell? ⟨gb174, 4, none⟩ = some (.int .i64 0) := (blk_cell BK174.out 4).trans rfl; have hcz12_5 : w11.cell? ⟨gb174, 5, none⟩ = some (.int .i64 0) := (blk_cell BK174.out 5).trans rfl; have hfz12_0 := blk_frozen BK174.out 0; have hfz12_1 := blk_frozen BK174.out 1; have hfz12_2 := blk_frozen BK174.out 2; have hfz12_3 := blk_frozen BK174.out 3; have hfz12_4 := blk_frozen BK174.out 4; have hfz12_5 := blk_frozen BK174.out 5) | ((with_reducible refine gate_callee (f := 79) rfl ?_); refine goesL_ (some 17) rfl rfl Try.func79 (by kernel_rfl) rfl #[.int .i64 x175000_1] rfl (by (try simp only [List.map_toArray, List.map_cons, List.map_nil]); first | done | rfl | (simp only [List.length_drop, List.length_take]; rfl)) ?_; (with_reducible refine (masterdiscref16_year.calls x175000_1 t176 _ A8.out).mono ?_); rintro e w13 ⟨rfl, hb⟩; refine ⟨_, rfl, ?_⟩; have n0_ := Aside0.mk (blk_below (g := gb173) (o := .cells #[.int .i64 0, .int .i64 0, .int .i64 0, .int .i64 0, .int .i64 0, .int .i64 0] 67 (0, 0)) (by (with_reducible repeat (first | refine blk_drewN ?_ _ | refine blk_drew ?_ | refine blk_alloc ?_ _)); exact BK173.out) hb); have n1_ := Aside0.mk (blk_below (g := gb174) (o := .cells #[.int .i64 x175000_1, .int .i64 1, .int .i64 1, .int .i64 0, .int .i64 0, .int .i64 0] 67 (0, 0)) (by (with_reducible repeat (first | refine blk_drewN ?_ _ | refine blk_drew ?_ | refine blk_alloc ?_ _)); exact BK174.out) hb); have n2_ := Aside0.mk (below_step (by repeat (first | (with_reducible first | exact HB.out | apply below_alloc | apply pw_below_drewN | apply below_drew1 | refine below_set ?_ GE173.out | refine below_set ?_ GE174.out) | exact HB.out)) hb); clear BK173; clear BK174; clear HB; have BK173 := n0_; have BK174 := n1_; have HB := n2_; clear n0_ n1_ n2_; (try clear hb); (try clear hb2); (try clear hk); (try clear hi); have hcz14_0 : w13.cell? ⟨gb174, 0, none⟩ = some (.int .i64 x175000_1) := (blk_cell BK174.out 0).trans rfl; have hcz14_1 : w13.cell? ⟨gb174, 1, none⟩ = some (.int .i64 1) := (blk_cell BK174.out 1).trans rfl; have hcz14_2 : w13.cell? ⟨gb174, 2, none⟩ = some (.int .i64 1) := (blk_cell BK174.out 2).trans rfl; have hcz14_3 : w13.cell? ⟨gb174, 3, none⟩ = some (.int .i64 0) := (blk_cell BK174.out 3).trans rfl; have hcz14_4 : w13.cell? ⟨gb174, 4, none⟩ = some (.int .i64 0) := (blk_cell BK174.out 4).trans rfl; have hcz14_5 : w13.cell? ⟨gb174, 5, none⟩ = some (.int .i64 0) := (blk_cell BK174.out 5).trans rfl; have hfz14_0 := blk_frozen BK174.out 0; have hfz14_1 := blk_frozen BK174.out 1; have hfz14_2 := blk_frozen BK174.out 2; have hfz14_3 := blk_frozen BK174.out 3; have hfz14_4 := blk_frozen BK174.out 4; have hfz14_5 := blk_frozen BK174.out 5))
        go_roundg k1
        case measure => have := HK1.out; omega
        case rel => exact ⟨(wrap64 (x4_1 - t176)), (wrap64 (x175000_1 + 1)), (by first | rfl | (simp; done) | (simp [*]; done)), H', ⟨by have := HK1.out; omega⟩, ⟨by (with_reducible repeat (first | refine blk_drewN ?_ _ | refine blk_drew ?_ | refine blk_alloc ?_ _)); refine blk_far ?_ NB173_174.out _; (with_reducible repeat (first | refine blk_drewN ?_ _ | refine blk_drew ?_ | refine blk_alloc ?_ _)); exact BK173.out⟩, ⟨by (with_reducible repeat (first | refine blk_drewN ?_ _ | refine blk_drew ?_ | refine blk_alloc ?_ _)); refine blk_put (cs := #[.int .i64 x175000_1, .int .i64 1, .int .i64 1, .int .i64 0, .int .i64 0, .int .i64 0]) ?_ 0 _ rfl; (with_reducible repeat (first | refine blk_drewN ?_ _ | refine blk_drew ?_ | refine blk_alloc ?_ _)); exact BK174.out⟩, ⟨by repeat (first | (with_reducible first | exact HB.out | apply below_alloc | apply pw_below_drewN | apply below_drew1 | refine below_set ?_ GE173.out | refine below_set ?_ GE174.out) | exact HB.out)⟩⟩
      · rw [if_neg c7] at H
        have c7b0 : decide (t175 ≤ x4_1) = false := decide_eq_false c7
        clear c7
        have H' := Aside0.mk H
        clear H
        have hnb15 := NB174_173.out
        have hnc15 := NB173_174.out
        have hcz16_0 : wr.cell? ⟨gb174, 0, none⟩ = some (.int .i64 x175000_1) := (blk_cell BK174.out 0).trans rfl
        have hcz16_1 : wr.cell? ⟨gb174, 1, none⟩ = some (.int .i64 1) := (blk_cell BK174.out 1).trans rfl
        have hcz16_2 : wr.cell? ⟨gb174, 2, none⟩ = some (.int .i64 1) := (blk_cell BK174.out 2).trans rfl
        have hcz16_3 : wr.cell? ⟨gb174, 3, none⟩ = some (.int .i64 0) := (blk_cell BK174.out 3).trans rfl
        have hcz16_4 : wr.cell? ⟨gb174, 4, none⟩ = some (.int .i64 0) := (blk_cell BK174.out 4).trans rfl
        have hcz16_5 : wr.cell? ⟨gb174, 5, none⟩ = some (.int .i64 0) := (blk_cell BK174.out 5).trans rfl
        have hfz16_0 := blk_frozen BK174.out 0
        have hfz16_1 := blk_frozen BK174.out 1
        have hfz16_2 := blk_frozen BK174.out 2
        have hfz16_3 := blk_frozen BK174.out 3
        have hfz16_4 := blk_frozen BK174.out 4
        have hfz16_5 := blk_frozen BK174.out 5
        go_wp2_with (first | ((with_reducible refine gate_callee (f := 79) rfl ?_); refine goesL_ (some 12) rfl rfl Try.func79 (by kernel_rfl) rfl #[.int .i64 x175000_1] rfl (by (try simp only [List.map_toArray, List.map_cons, List.map_nil]); first | done | rfl | (simp only [List.length_drop, List.length_take]; rfl)) ?_; (with_reducible refine (masterdiscref16_year.calls x175000_1 t175 _ A6.out).mono ?_); rintro e w17 ⟨rfl, hb⟩; refine ⟨_, rfl, ?_⟩; have n0_ := Aside0.mk (blk_below (g := gb173) (o := .cells #[.int .i64 0, .int .i64 0, .int .i64 0, .int .i64 0, .int .i64 0, .int .i64 0] 67 (0, 0)) (by (with_reducible repeat (first | refine blk_drewN ?_ _ | refine blk_drew ?_ | refine blk_alloc ?_ _)); exact BK173.out) hb); have n1_ := Aside0.mk (blk_below (g := gb174) (o := .cells #[.int .i64 x175000_1, .int .i64 1, .int .i64 1, .int .i64 0, .int .i64 0, .int .i64 0] 67 (0, 0)) (by (with_reducible repeat (first | refine blk_drewN ?_ _ | refine blk_drew ?_ | refine blk_alloc ?_ _)); exact BK174.out) hb); have n2_ := Aside0.mk (below_step (by repeat (first | (with_reducible first | exact HB.out | apply below_alloc | apply pw_below_drewN | apply below_drew1 | refine below_set ?_ GE173.out | refine below_set ?_ GE174.out) | exact HB.out)) hb); clear BK173; clear BK174; clear HB; have BK173 := n0_; have BK174 := n1_; have HB := n2_; clear n0_ n1_ n2_; (try clear hb); (try clear hb2); (try clear hk); (try clear hi)))
        go_loopg [4] k1 (fun kq v4 w' => ∃ (x4_2 : Int) (x175001_2 : Int), v4 = .int .i64 x4_2 ∧ Aside0 (masterdiscref16_utc.l1 kq a0 x4_2 x175000_1 x175001_2 1 0 0 0 = some (r1, r2, r3, r4, r5, r6)) ∧ Aside0 (kq ≤ k1) ∧ Aside0 (w'.heap[gb173]? = some (.cells #[.int .i64 0, .int .i64 0, .int .i64 0, .int .i64 0, .int .i64 0, .int .i64 0] 67 (0, 0))) ∧ Aside0 (w'.heap[gb174]? = some (.cells #[.int .i64 x175000_1, .int .i64 x175001_2, .int .i64 1, .int .i64 0, .int .i64 0, .int .i64 0] 67 (0, 0))) ∧ Aside0 (Below w.heap.size w w'))
        case atStart => exact ⟨(x4_1), (1), (by first | rfl | (simp; done) | (simp [*]; done)), H', ⟨Nat.le_refl _⟩, ⟨by (with_reducible repeat (first | refine blk_drewN ?_ _ | refine blk_drew ?_ | refine blk_alloc ?_ _)); exact BK173.out⟩, ⟨by (with_reducible repeat (first | refine blk_drewN ?_ _ | refine blk_drew ?_ | refine blk_alloc ?_ _)); exact BK174.out⟩, ⟨by repeat (first | (with_reducible first | exact HB.out | apply below_alloc | apply pw_below_drewN | apply below_drew1 | refine below_set ?_ GE173.out | refine below_set ?_ GE174.out) | exact HB.out)⟩⟩
        case round =>
          clear H'
          try clear c1
          try clear p2
          try clear c4
          try clear p6
          try clear c7
          try clear c7b0
          try clear c9
          try clear c15
          try clear hcz10_0
          try clear hcz10_1
          try clear hcz10_2
          try clear hcz10_3
          try clear hcz10_4
          try clear hcz10_5
          try clear hcz12_0
          try clear hcz12_1
          try clear hcz12_2
          try clear hcz12_3
          try clear hcz12_4
          try clear hcz12_5
          try clear hcz14_0
          try clear hcz14_1
          try clear hcz14_2
          try clear hcz14_3
          try clear hcz14_4
          try clear hcz14_5
          try clear hcz16_0
          try clear hcz16_1
          try clear hcz16_2
          try clear hcz16_3
          try clear hcz16_4
          try clear hcz16_5
          try clear hcz5_0
          try clear hcz5_1
          try clear hcz5_2
          try clear hcz5_3
          try clear hcz5_4
          try clear hcz5_5
          try clear hfz10_0
          try clear hfz10_1
          try clear hfz10_2
          try clear hfz10_3
          try clear hfz10_4
          try clear hfz10_5
          try clear hfz12_0
          try clear hfz12_1
          try clear hfz12_2
          try clear hfz12_3
          try clear hfz12_4
          try clear hfz12_5
          try clear hfz14_0
          try clear hfz14_1
          try clear hfz14_2
          try clear hfz14_3
          try clear hfz14_4
          try clear hfz14_5
          try clear hfz16_0
          try clear hfz16_1
          try clear hfz16_2
          try clear hfz16_3
          try clear hfz16_4
          try clear hfz16_5
          try clear hfz5_0
          try clear hfz5_1
          try clear hfz5_2
          try clear hfz5_3
          try clear hfz5_4
          try clear hfz5_5
          try clear p2
          obtain ⟨x4_2, x175001_2, rfl, HA, HK2, BK173, BK174, HB⟩ := hrel
          cases gk with
          | zero => exact absurd HA.out (by simp [masterdiscref16_utc.l1])
          | succ k2 =>
            have H := HA.out
            clear HA
            simp only [masterdiscref16_utc.l1] at H
            replace H := Option.bind_eq_some_iff.mp H
            obtain ⟨t177, A180, H⟩ := H
            replace H : (if x4_2 ≥ t177 then ((masterdiscref16_days.f x175000_1 x175001_2).bind fun t178 => (masterdiscref16_utc.l1 k2 a0 (wrap64 (x4_2 - t178)) x175000_1 (wrap64 (x175001_2 + 1)) 1 0 0 0)) else (some (x175000_1, x175001_2, wrap64 (1 + x4_2), wrap64 (Int.tdiv (Int.tmod a0 86400) 3600), Int.tmod (wrap64 (Int.tdiv (Int.tmod a0 86400) 60)) 60, Int.tmod a0 60))) = some (r1, r2, r3, r4, r5, r6) := H
            have A18 := Aside0.mk A180
            clear A180
            by_cases c19 : x4_2 ≥ t177
            · rw [if_pos c19] at H
              have c19b0 : decide (t177 ≤ x4_2) = true := decide_eq_true c19
              clear c19
              replace H := Option.bind_eq_some_iff.mp H
              obtain ⟨t178, A200, H⟩ := H
              replace H : (masterdiscref16_utc.l1 k2 a0 (wrap64 (x4_2 - t178)) x175000_1 (wrap64 (x175001_2 + 1)) 1 0 0 0) = some (r1, r2, r3, r4, r5, r6) := H
              have A20 := Aside0.mk A200
              clear A200
              have H' := Aside0.mk H
              clear H
              have hnb21 := NB174_173.out
              have hnc21 := NB173_174.out
              have hcz22_0 : wr.cell? ⟨gb174, 0, none⟩ = some (.int .i64 x175000_1) := (blk_cell BK174.out 0).trans rfl
              have hcz22_1 : wr.cell? ⟨gb174, 1, none⟩ = some (.int .i64 x175001_2) := (blk_cell BK174.out 1).trans rfl
              have hcz22_2 : wr.cell? ⟨gb174, 2, none⟩ = some (.int .i64 1) := (blk_cell BK174.out 2).trans rfl
              have hcz22_3 : wr.cell? ⟨gb174, 3, none⟩ = some (.int .i64 0) := (blk_cell BK174.out 3).trans rfl
              have hcz22_4 : wr.cell? ⟨gb174, 4, none⟩ = some (.int .i64 0) := (blk_cell BK174.out 4).trans rfl
              have hcz22_5 : wr.cell? ⟨gb174, 5, none⟩ = some (.int .i64 0) := (blk_cell BK174.out 5).trans rfl
              have hfz22_0 := blk_frozen BK174.out 0
              have hfz22_1 := blk_frozen BK174.out 1
              have hfz22_2 := blk_frozen BK174.out 2
              have hfz22_3 := blk_frozen BK174.out 3
              have hfz22_4 := blk_frozen BK174.out 4
              have hfz22_5 := blk_frozen BK174.out 5
              go_wp2_with (first | ((with_reducible refine gate_callee (f := 76) rfl ?_); refine goesL_ (some 28) rfl rfl Try.func76 (by kernel_rfl) rfl #[.int .i64 x175000_1, .int .i64 x175001_2] rfl (by (try simp only [List.map_toArray, List.map_cons, List.map_nil]); first | done | rfl | (simp only [List.length_drop, List.length_take]; rfl)) ?_; (with_reducible refine (masterdiscref16_days.calls x175000_1 x175001_2 t177 _ A18.out).mono ?_); rintro e w23 ⟨rfl, hb⟩; refine ⟨_, rfl, ?_⟩; have n0_ := Aside0.mk (blk_below (g := gb173) (o := .cells #[.int .i64 0, .int .i64 0, .int .i64 0, .int .i64 0, .int .i64 0, .int .i64 0] 67 (0, 0)) (by (with_reducible repeat (first | refine blk_drewN ?_ _ | refine blk_drew ?_ | refine blk_alloc ?_ _)); exact BK173.out) hb); have n1_ := Aside0.mk (blk_below (g := gb174) (o := .cells #[.int .i64 x175000_1, .int .i64 x175001_2, .int .i64 1, .int .i64 0, .int .i64 0, .int .i64 0] 67 (0, 0)) (by (with_reducible repeat (first | refine blk_drewN ?_ _ | refine blk_drew ?_ | refine blk_alloc ?_ _)); exact BK174.out) hb); have n2_ := Aside0.mk (below_step (by repeat (first | (with_reducible first | exact HB.out | apply below_alloc | apply pw_below_drewN | apply below_drew1 | refine below_set ?_ GE173.out | refine below_set ?_ GE174.out) | exact HB.out)) hb); clear BK173; clear BK174; clear HB; have BK173 := n0_; have BK174 := n1_; have HB := n2_; clear n0_ n1_ n2_; (try clear hb); (try clear hb2); (try clear hk); (try clear hi); have hcz24_0 : w23.cell? ⟨gb174, 0, none⟩ = some (.int .i64 x175000_1) := (blk_cell BK174.out 0).trans rfl; have hcz24_1 : w23.cell? ⟨gb174, 1, none⟩ = some (.int .i64 x175001_2) := (blk_cell BK174.out 1).trans rfl; have hcz24_2 : w23.cell? ⟨gb174, 2, none⟩ = some (.int .i64 1) := (blk_cell BK174.out 2).trans rfl; have hcz24_3 : w23.cell? ⟨gb174, 3, none⟩ = some (.int .i64 0) := (blk_cell BK174.out 3).trans rfl; have hcz24_4 : w23.cell? ⟨gb174, 4, none⟩ = some (.int .i64 0) := (blk_cell BK174.out 4).trans rfl; have hcz24_5 : w23.cell? ⟨gb174, 5, none⟩ = some (.int .i64 0) := (blk_cell BK174.out 5).trans rfl; have hfz24_0 := blk_frozen BK174.out 0; have hfz24_1 := blk_frozen BK174.out 1; have hfz24_2 := blk_frozen BK174.out 2; have hfz24_3 := blk_frozen BK174.out 3; have hfz24_4 := blk_frozen BK174.out 4; have hfz24_5 := blk_frozen BK174.out 5) | ((with_reducible refine gate_callee (f := 76) rfl ?_); refine goesL_ (some 35) rfl rfl Try.func76 (by kernel_rfl) rfl #[.int .i64 x175000_1, .int .i64 x175001_2] rfl (by (try simp only [List.map_toArray, List.map_cons, List.map_nil]); first | done | rfl | (simp only [List.length_drop, List.length_take]; rfl)) ?_; (with_reducible refine (masterdiscref16_days.calls x175000_1 x175001_2 t178 _ A20.out).mono ?_); rintro e w25 ⟨rfl, hb⟩; refine ⟨_, rfl, ?_⟩; have n0_ := Aside0.mk (blk_below (g := gb173) (o := .cells #[.int .i64 0, .int .i64 0, .int .i64 0, .int .i64 0, .int .i64 0, .int .i64 0] 67 (0, 0)) (by (with_reducible repeat (first | refine blk_drewN ?_ _ | refine blk_drew ?_ | refine blk_alloc ?_ _)); exact BK173.out) hb); have n1_ := Aside0.mk (blk_below (g := gb174) (o := .cells #[.int .i64 x175000_1, .int .i64 x175001_2, .int .i64 1, .int .i64 0, .int .i64 0, .int .i64 0] 67 (0, 0)) (by (with_reducible repeat (first | refine blk_drewN ?_ _ | refine blk_drew ?_ | refine blk_alloc ?_ _)); exact BK174.out) hb); have n2_ := Aside0.mk (below_step (by repeat (first | (with_reducible first | exact HB.out | apply below_alloc | apply pw_below_drewN | apply below_drew1 | refine below_set ?_ GE173.out | refine below_set ?_ GE174.out) | exact HB.out)) hb); clear BK173; clear BK174; clear HB; have BK173 := n0_; have BK174 := n1_; have HB := n2_; clear n0_ n1_ n2_; (try clear hb); (try clear hb2); (try clear hk); (try clear hi); have hcz26_0 : w25.cell? ⟨gb174, 0, none⟩ = some (.int .i64 x175000_1) := (blk_cell BK174.out 0).trans rfl; have hcz26_1 : w25.cell? ⟨gb174, 1, none⟩ = some (.int .i64 x175001_2) := (blk_cell BK174.out 1).trans rfl; have hcz26_2 : w25.cell? ⟨gb174, 2, none⟩ = some (.int .i64 1) := (blk_cell BK174.out 2).trans rfl; have hcz26_3 : w25.cell? ⟨gb174, 3, none⟩ = some (.int .i64 0) := (blk_cell BK174.out 3).trans rfl; have hcz26_4 : w25.cell? ⟨gb174, 4, none⟩ = some (.int .i64 0) := (blk_cell BK174.out 4).trans rfl; have hcz26_5 : w25.cell? ⟨gb174, 5, none⟩ = some (.int .i64 0) := (blk_cell BK174.out 5).trans rfl; have hfz26_0 := blk_frozen BK174.out 0; have hfz26_1 := blk_frozen BK174.out 1; have hfz26_2 := blk_frozen BK174.out 2; have hfz26_3 := blk_frozen BK174.out 3; have hfz26_4 := blk_frozen BK174.out 4; have hfz26_5 := blk_frozen BK174.out 5))
              go_roundg k2
              case measure => have := HK1.out; have := HK2.out; omega
              case rel => exact ⟨(wrap64 (x4_2 - t178)), (wrap64 (x175001_2 + 1)), (by first | rfl | (simp; done) | (simp [*]; done)), H', ⟨by have := HK1.out; have := HK2.out; omega⟩, ⟨by (with_reducible repeat (first | refine blk_drewN ?_ _ | refine blk_drew ?_ | refine blk_alloc ?_ _)); refine blk_far ?_ NB173_174.out _; (with_reducible repeat (first | refine blk_drewN ?_ _ | refine blk_drew ?_ | refine blk_alloc ?_ _)); exact BK173.out⟩, ⟨by (with_reducible repeat (first | refine blk_drewN ?_ _ | refine blk_drew ?_ | refine blk_alloc ?_ _)); refine blk_put (cs := #[.int .i64 x175000_1, .int .i64 x175001_2, .int .i64 1, .int .i64 0, .int .i64 0, .int .i64 0]) ?_ 1 _ rfl; (with_reducible repeat (first | refine blk_drewN ?_ _ | refine blk_drew ?_ | refine blk_alloc ?_ _)); exact BK174.out⟩, ⟨by repeat (first | (with_reducible first | exact HB.out | apply below_alloc | apply pw_below_drewN | apply below_drew1 | refine below_set ?_ GE173.out | refine below_set ?_ GE174.out) | exact HB.out)⟩⟩
            · rw [if_neg c19] at H
              have c19b0 : decide (t177 ≤ x4_2) = false := decide_eq_false c19
              clear c19
              simp only [Option.some.injEq, Prod.mk.injEq] at H
              obtain ⟨rfl, rfl, rfl, rfl, rfl, rfl⟩ := H
              have hnb27 := NB174_173.out
              have hnc27 := NB173_174.out
              have hcz28_0 : wr.cell? ⟨gb174, 0, none⟩ = some (.int .i64 x175000_1) := (blk_cell BK174.out 0).trans rfl
              have hcz28_1 : wr.cell? ⟨gb174, 1, none⟩ = some (.int .i64 x175001_2) := (blk_cell BK174.out 1).trans rfl
              have hcz28_2 : wr.cell? ⟨gb174, 2, none⟩ = some (.int .i64 1) := (blk_cell BK174.out 2).trans rfl
              have hcz28_3 : wr.cell? ⟨gb174, 3, none⟩ = some (.int .i64 0) := (blk_cell BK174.out 3).trans rfl
              have hcz28_4 : wr.cell? ⟨gb174, 4, none⟩ = some (.int .i64 0) := (blk_cell BK174.out 4).trans rfl
              have hcz28_5 : wr.cell? ⟨gb174, 5, none⟩ = some (.int .i64 0) := (blk_cell BK174.out 5).trans rfl
              have hfz28_0 := blk_frozen BK174.out 0
              have hfz28_1 := blk_frozen BK174.out 1
              have hfz28_2 := blk_frozen BK174.out 2
              have hfz28_3 := blk_frozen BK174.out 3
              have hfz28_4 := blk_frozen BK174.out 4
              have hfz28_5 := blk_frozen BK174.out 5
              go_wp2_with (first | ((with_reducible refine gate_callee (f := 76) rfl ?_); refine goesL_ (some 28) rfl rfl Try.func76 (by kernel_rfl) rfl #[.int .i64 x175000_1, .int .i64 x175001_2] rfl (by (try simp only [List.map_toArray, List.map_cons, List.map_nil]); first | done | rfl | (simp only [List.length_drop, List.length_take]; rfl)) ?_; (with_reducible refine (masterdiscref16_days.calls x175000_1 x175001_2 t177 _ A18.out).mono ?_); rintro e w29 ⟨rfl, hb⟩; refine ⟨_, rfl, ?_⟩; have n0_ := Aside0.mk (blk_below (g := gb173) (o := .cells #[.int .i64 0, .int .i64 0, .int .i64 0, .int .i64 0, .int .i64 0, .int .i64 0] 67 (0, 0)) (by (with_reducible repeat (first | refine blk_drewN ?_ _ | refine blk_drew ?_ | refine blk_alloc ?_ _)); exact BK173.out) hb); have n1_ := Aside0.mk (blk_below (g := gb174) (o := .cells #[.int .i64 x175000_1, .int .i64 x175001_2, .int .i64 1, .int .i64 0, .int .i64 0, .int .i64 0] 67 (0, 0)) (by (with_reducible repeat (first | refine blk_drewN ?_ _ | refine blk_drew ?_ | refine blk_alloc ?_ _)); exact BK174.out) hb); have n2_ := Aside0.mk (below_step (by repeat (first | (with_reducible first | exact HB.out | apply below_alloc | apply pw_below_drewN | apply below_drew1 | refine below_set ?_ GE173.out | refine below_set ?_ GE174.out) | exact HB.out)) hb); clear BK173; clear BK174; clear HB; have BK173 := n0_; have BK174 := n1_; have HB := n2_; clear n0_ n1_ n2_; (try clear hb); (try clear hb2); (try clear hk); (try clear hi); have hcz30_0 : w29.cell? ⟨gb174, 0, none⟩ = some (.int .i64 x175000_1) := (blk_cell BK174.out 0).trans rfl; have hcz30_1 : w29.cell? ⟨gb174, 1, none⟩ = some (.int .i64 x175001_2) := (blk_cell BK174.out 1).trans rfl; have hcz30_2 : w29.cell? ⟨gb174, 2, none⟩ = some (.int .i64 1) := (blk_cell BK174.out 2).trans rfl; have hcz30_3 : w29.cell? ⟨gb174, 3, none⟩ = some (.int .i64 0) := (blk_cell BK174.out 3).trans rfl; have hcz30_4 : w29.cell? ⟨gb174, 4, none⟩ = some (.int .i64 0) := (blk_cell BK174.out 4).trans rfl; have hcz30_5 : w29.cell? ⟨gb174, 5, none⟩ = some (.int .i64 0) := (blk_cell BK174.out 5).trans rfl; have hfz30_0 := blk_frozen BK174.out 0; have hfz30_1 := blk_frozen BK174.out 1; have hfz30_2 := blk_frozen BK174.out 2; have hfz30_3 := blk_frozen BK174.out 3; have hfz30_4 := blk_frozen BK174.out 4; have hfz30_5 := blk_frozen BK174.out 5; have hcz31_0 : w29.cell? ⟨gb173, 0, none⟩ = some (.int .i64 0) := (blk_cell BK173.out 0).trans rfl; have hcz31_1 : w29.cell? ⟨gb173, 1, none⟩ = some (.int .i64 0) := (blk_cell BK173.out 1).trans rfl; have hcz31_2 : w29.cell? ⟨gb173, 2, none⟩ = some (.int .i64 0) := (blk_cell BK173.out 2).trans rfl; have hcz31_3 : w29.cell? ⟨gb173, 3, none⟩ = some (.int .i64 0) := (blk_cell BK173.out 3).trans rfl; have hcz31_4 : w29.cell? ⟨gb173, 4, none⟩ = some (.int .i64 0) := (blk_cell BK173.out 4).trans rfl; have hcz31_5 : w29.cell? ⟨gb173, 5, none⟩ = some (.int .i64 0) := (blk_cell BK173.out 5).trans rfl; have hfz31_0 := blk_frozen BK173.out 0; have hfz31_1 := blk_frozen BK173.out 1; have hfz31_2 := blk_frozen BK173.out 2; have hfz31_3 := blk_frozen BK173.out 3; have hfz31_4 := blk_frozen BK173.out 4; have hfz31_5 := blk_frozen BK173.out 5))
              refine bodyPost_ret (results_cell_row rfl _ _ gb173 67 #[.int .i64 x175000_1, .int .i64 x175001_2, .int .i64 (wrap64 (1 + x4_2)), .int .i64 (wrap64 (Int.tdiv (Int.tmod a0 86400) 3600)), .int .i64 (Int.tmod (wrap64 (Int.tdiv (Int.tmod a0 86400) 60)) 60), .int .i64 (Int.tmod a0 60)] (0, 0) _ rfl (by (with_reducible repeat (first | refine blk_drewN ?_ _ | refine blk_drew ?_ | refine blk_alloc ?_ _)); refine blk_put (cs := #[.int .i64 x175000_1, .int .i64 x175001_2, .int .i64 (wrap64 (1 + x4_2)), .int .i64 (wrap64 (Int.tdiv (Int.tmod a0 86400) 3600)), .int .i64 (Int.tmod (wrap64 (Int.tdiv (Int.tmod a0 86400) 60)) 60), .int .i64 0]) ?_ 5 _ rfl; (with_reducible repeat (first | refine blk_drewN ?_ _ | refine blk_drew ?_ | refine blk_alloc ?_ _)); refine blk_put (cs := #[.int .i64 x175000_1, .int .i64 x175001_2, .int .i64 (wrap64 (1 + x4_2)), .int .i64 (wrap64 (Int.tdiv (Int.tmod a0 86400) 3600)), .int .i64 0, .int .i64 0]) ?_ 4 _ rfl; (with_reducible repeat (first | refine blk_drewN ?_ _ | refine blk_drew ?_ | refine blk_alloc ?_ _)); refine blk_put (cs := #[.int .i64 x175000_1, .int .i64 x175001_2, .int .i64 (wrap64 (1 + x4_2)), .int .i64 0, .int .i64 0, .int .i64 0]) ?_ 3 _ rfl; (with_reducible repeat (first | refine blk_drewN ?_ _ | refine blk_drew ?_ | refine blk_alloc ?_ _)); refine blk_put (cs := #[.int .i64 x175000_1, .int .i64 x175001_2, .int .i64 0, .int .i64 0, .int .i64 0, .int .i64 0]) ?_ 2 _ rfl; (with_reducible repeat (first | refine blk_drewN ?_ _ | refine blk_drew ?_ | refine blk_alloc ?_ _)); refine blk_put (cs := #[.int .i64 x175000_1, .int .i64 0, .int .i64 0, .int .i64 0, .int .i64 0, .int .i64 0]) ?_ 1 _ rfl; (with_reducible repeat (first | refine blk_drewN ?_ _ | refine blk_drew ?_ | refine blk_alloc ?_ _)); refine blk_put (cs := #[.int .i64 0, .int .i64 0, .int .i64 0, .int .i64 0, .int .i64 0, .int .i64 0]) ?_ 0 _ rfl; (with_reducible repeat (first | refine blk_drewN ?_ _ | refine blk_drew ?_ | refine blk_alloc ?_ _)); refine blk_far ?_ NB173_174.out _; (with_reducible repeat (first | refine blk_drewN ?_ _ | refine blk_drew ?_ | refine blk_alloc ?_ _)); refine blk_far ?_ NB173_174.out _; (with_reducible repeat (first | refine blk_drewN ?_ _ | refine blk_drew ?_ | refine blk_alloc ?_ _)); refine blk_far ?_ NB173_174.out _; (with_reducible repeat (first | refine blk_drewN ?_ _ | refine blk_drew ?_ | refine blk_alloc ?_ _)); refine blk_far ?_ NB173_174.out _; (with_reducible repeat (first | refine blk_drewN ?_ _ | refine blk_drew ?_ | refine blk_alloc ?_ _)); exact BK173.out) Try.underlying67 rfl (by kernel_rfl)) rfl ?_
              exact ⟨by first | rfl | (simp [errW_none, errW_some] <;> rfl) | (simp [*, errW_none, errW_some] <;> rfl), by repeat (first | (with_reducible first | exact HB.out | apply below_alloc | apply pw_below_drewN | apply below_drew1 | refine below_set ?_ GE173.out | refine below_set ?_ GE174.out) | exact HB.out)⟩

/-! ### masterdiscref16_Split: function 49 -/
def masterdiscref16_Split.f (k : Nat) (a0 : Int) (a1 : Int) : Option (Int × Int × Int × Int × Int × Int × Int) := (masterdiscref16_Time.f a0).bind fun t180 => (if t180 = true then ((masterdiscref16_Zone.f a1).bind fun t181 => (if t181 = true then ((masterdiscref16_utc.f k (wrap64 (a0 + (wrap64 (60 * a1))))).bind fun bt182 => (some (bt182.1, bt182.2.1, bt182.2.2.1, bt182.2.2.2.1, bt182.2.2.2.2.1, bt182.2.2.2.2.2, 0))) else (some (0, 0, 0, 0, 0, 0, 2)))) else (some (0, 0, 0, 0, 0, 0, 2)))
set_option maxHeartbeats 8000000 in
set_option maxRecDepth 100000 in
theorem masterdiscref16_Split.calls (k : Nat) (a0 : Int) (a1 : Int) (r1 : Int) (r2 : Int) (r3 : Int) (r4 : Int) (r5 : Int) (r6 : Int) (r7 : Int) (w : World) (h : masterdiscref16_Split.f k a0 a1 = some (r1, r2, r3, r4, r5, r6, r7)) :
    Calls Try.prog 49 #[.int .i64 a0, .int .i64 a1] w fun e w' => e = .returned (.tuple #[.agg #[.int .i64 r1, .int .i64 r2, .int .i64 r3, .int .i64 r4, .int .i64 r5, .int .i64 r6], .int .i64 r7]) ∧ Below w.heap.size w w' := by
  have hu67 := Try.underlying67
  have HB := Aside0.mk (Below.refl w.heap.size w)
  have H : ((masterdiscref16_Time.f a0).bind fun t180 => (if t180 = true then ((masterdiscref16_Zone.f a1).bind fun t181 => (if t181 = true then ((masterdiscref16_utc.f k (wrap64 (a0 + (wrap64 (60 * a1))))).bind fun bt182 => (some (bt182.1, bt182.2.1, bt182.2.2.1, bt182.2.2.2.1, bt182.2.2.2.2.1, bt182.2.2.2.2.2, 0))) else (some (0, 0, 0, 0, 0, 0, 2)))) else (some (0, 0, 0, 0, 0, 0, 2)))) = some (r1, r2, r3, r4, r5, r6, r7) := h
  clear h
  replace H := Option.bind_eq_some_iff.mp H
  obtain ⟨t180, A30, H⟩ := H
  replace H : (if t180 = true then ((masterdiscref16_Zone.f a1).bind fun t181 => (if t181 = true then ((masterdiscref16_utc.f k (wrap64 (a0 + (wrap64 (60 * a1))))).bind fun bt182 => (some (bt182.1, bt182.2.1, bt182.2.2.1, bt182.2.2.2.1, bt182.2.2.2.2.1, bt182.2.2.2.2.2, 0))) else (some (0, 0, 0, 0, 0, 0, 2)))) else (some (0, 0, 0, 0, 0, 0, 2))) = some (r1, r2, r3, r4, r5, r6, r7) := H
  have A3 := Aside0.mk A30
  clear A30
  by_cases c4 : t180 = true
  · subst c4
    have H1 : ((masterdiscref16_Zone.f a1).bind fun t181 => (if t181 = true then ((masterdiscref16_utc.f k (wrap64 (a0 + (wrap64 (60 * a1))))).bind fun bt182 => (some (bt182.1, bt182.2.1, bt182.2.2.1, bt182.2.2.2.1, bt182.2.2.2.2.1, bt182.2.2.2.2.2, 0))) else (some (0, 0, 0, 0, 0, 0, 2)))) = some (r1, r2, r3, r4, r5, r6, r7) := by rw [if_pos rfl] at H; exact H
    clear H
    have H := H1
    clear H1
    replace H := Option.bind_eq_some_iff.mp H
    obtain ⟨t181, A50, H⟩ := H
    replace H : (if t181 = true then ((masterdiscref16_utc.f k (wrap64 (a0 + (wrap64 (60 * a1))))).bind fun bt182 => (some (bt182.1, bt182.2.1, bt182.2.2.1, bt182.2.2.2.1, bt182.2.2.2.2.1, bt182.2.2.2.2.2, 0))) else (some (0, 0, 0, 0, 0, 0, 2))) = some (r1, r2, r3, r4, r5, r6, r7) := H
    have A5 := Aside0.mk A50
    clear A50
    by_cases c6 : t181 = true
    · subst c6
      have H1 : ((masterdiscref16_utc.f k (wrap64 (a0 + (wrap64 (60 * a1))))).bind fun bt182 => (some (bt182.1, bt182.2.1, bt182.2.2.1, bt182.2.2.2.1, bt182.2.2.2.2.1, bt182.2.2.2.2.2, 0))) = some (r1, r2, r3, r4, r5, r6, r7) := by rw [if_pos rfl] at H; exact H
      clear H
      have H := H1
      clear H1
      replace H := Option.bind_eq_some_iff.mp H
      obtain ⟨⟨t182, t183, t184, t185, t186, t187⟩, A70, H⟩ := H
      replace H : (some (t182, t183, t184, t185, t186, t187, 0)) = some (r1, r2, r3, r4, r5, r6, r7) := H
      have A7 := Aside0.mk A70
      clear A70
      simp only [Option.some.injEq, Prod.mk.injEq] at H
      obtain ⟨rfl, rfl, rfl, rfl, rfl, rfl, rfl⟩ := H
      go_enter Try.func49, Try.ntmps49
      go_wp2_with (first | ((with_reducible refine gate_dst (N := 4) rfl ?_); refine box_event ?hg (N := 4) ?hd (cs := #[.int .i64 0, .int .i64 0, .int .i64 0, .int .i64 0, .int .i64 0, .int .i64 0]) (t := 67) ?hr ?_; (case hd => rfl); (case hg => rfl); (case hr => first | (go_simp; done) | (go_simp; rfl)); intro gb179 hg w8 hbox hb; have n0_ := Aside0.mk (below_step (by repeat (first | (with_reducible first | exact HB.out | apply below_alloc | apply pw_below_drewN | apply below_drew1) | exact HB.out)) hb); have n1_ := Aside0.mk (hbox); have n2_ := Aside0.mk ((by rw [hg]; exact (below_size (by repeat (first | (with_reducible first | exact HB.out | apply below_alloc | apply pw_below_drewN | apply below_drew1) | exact HB.out))) : w.heap.size ≤ gb179)); have n3_ := Aside0.mk ((by rw [hg]; exact (below_size (by repeat (first | (with_reducible first | exact HB.out | apply below_alloc | apply pw_below_drewN | apply below_drew1) | exact HB.out))) : w.heap.size ≤ gb179)); clear HB; have HB := n0_; have BK179 := n1_; have GW179 := n2_; have GE179 := n3_; clear n0_ n1_ n2_ n3_; clear hb hbox hg) | ((with_reducible refine gate_callee (f := 47) rfl ?_); refine goesL_ (some 7) rfl rfl Try.func47 (by kernel_rfl) rfl #[.int .i64 a0] rfl (by (try simp only [List.map_toArray, List.map_cons, List.map_nil]); first | done | rfl | (simp only [List.length_drop, List.length_take]; rfl)) ?_; (with_reducible refine (masterdiscref16_Time.calls a0 true _ A3.out).mono ?_); rintro e w' ⟨rfl, ⟨nd, rfl⟩⟩; refine ⟨_, rfl, ?_⟩; (try (rw [drewN_self w8]; generalize hq_ : World.drewN w8 _ = w8; have n0_ : Aside0 (w8.heap[gb179]? = some (.cells #[.int .i64 0, .int .i64 0, .int .i64 0, .int .i64 0, .int .i64 0, .int .i64 0] 67 (0, 0))) := ⟨by rw [← hq_]; exact (by (with_reducible repeat (first | refine blk_drewN ?_ _ | refine blk_drew ?_ | refine blk_alloc ?_ _)); exact BK179.out)⟩; have n1_ : Aside0 (Below w.heap.size w w8) := ⟨by rw [← hq_]; exact (by repeat (first | (with_reducible first | exact HB.out | apply below_alloc | apply pw_below_drewN | apply below_drew1 | refine below_set ?_ GE179.out) | exact HB.out))⟩; clear BK179 HB hq_; have BK179 := n0_; have HB := n1_; clear n0_ n1_))) | (go_at_call 71; (with_reducible refine (masterdiscref16_Zone.calls a1 true _ A5.out).mono ?_); rintro e w' ⟨rfl, ⟨nd, rfl⟩⟩; (try (rw [drewN_self w8]; generalize hq_ : World.drewN w8 _ = w8; have n0_ : Aside0 (w8.heap[gb179]? = some (.cells #[.int .i64 0, .int .i64 0, .int .i64 0, .int .i64 0, .int .i64 0, .int .i64 0] 67 (0, 0))) := ⟨by rw [← hq_]; exact (by (with_reducible repeat (first | refine blk_drewN ?_ _ | refine blk_drew ?_ | refine blk_alloc ?_ _)); exact BK179.out)⟩; have n1_ : Aside0 (Below w.heap.size w w8) := ⟨by rw [← hq_]; exact (by repeat (first | (with_reducible first | exact HB.out | apply below_alloc | apply pw_below_drewN | apply below_drew1 | refine below_set ?_ GE179.out) | exact HB.out))⟩; clear BK179 HB hq_; have BK179 := n0_; have HB := n1_; clear n0_ n1_))) | ((with_reducible refine gate_callee (f := 72) rfl ?_); refine goesL_ (some 19) rfl rfl Try.func72 (by kernel_rfl) rfl #[.int .i64 (wrap64 (a0 + (wrap64 (60 * a1))))] rfl (by (try simp only [List.map_toArray, List.map_cons, List.map_nil]); first | done | rfl | (simp only [List.length_drop, List.length_take]; rfl)) ?_; (with_reducible refine (masterdiscref16_utc.calls k (wrap64 (a0 + (wrap64 (60 * a1)))) t182 t183 t184 t185 t186 t187 _ A7.out).mono ?_); rintro e w9 ⟨rfl, hb⟩; refine ⟨_, rfl, ?_⟩; have n0_ := Aside0.mk (blk_below (g := gb179) (o := .cells #[.int .i64 0, .int .i64 0, .int .i64 0, .int .i64 0, .int .i64 0, .int .i64 0] 67 (0, 0)) (by (with_reducible repeat (first | refine blk_drewN ?_ _ | refine blk_drew ?_ | refine blk_alloc ?_ _)); exact BK179.out) hb); have n1_ := Aside0.mk (below_step (by repeat (first | (with_reducible first | exact HB.out | apply below_alloc | apply pw_below_drewN | apply below_drew1 | refine below_set ?_ GE179.out) | exact HB.out)) hb); clear BK179; clear HB; have BK179 := n0_; have HB := n1_; clear n0_ n1_; (try clear hb); (try clear hb2); (try clear hk); (try clear hi); have hcz10_0 : w9.cell? ⟨gb179, 0, none⟩ = some (.int .i64 0) := (blk_cell BK179.out 0).trans rfl; have hcz10_1 : w9.cell? ⟨gb179, 1, none⟩ = some (.int .i64 0) := (blk_cell BK179.out 1).trans rfl; have hcz10_2 : w9.cell? ⟨gb179, 2, none⟩ = some (.int .i64 0) := (blk_cell BK179.out 2).trans rfl; have hcz10_3 : w9.cell? ⟨gb179, 3, none⟩ = some (.int .i64 0) := (blk_cell BK179.out 3).trans rfl; have hcz10_4 : w9.cell? ⟨gb179, 4, none⟩ = some (.int .i64 0) := (blk_cell BK179.out 4).trans rfl; have hcz10_5 : w9.cell? ⟨gb179, 5, none⟩ = some (.int .i64 0) := (blk_cell BK179.out 5).trans rfl; have hfz10_0 := blk_frozen BK179.out 0; have hfz10_1 := blk_frozen BK179.out 1; have hfz10_2 := blk_frozen BK179.out 2; have hfz10_3 := blk_frozen BK179.out 3; have hfz10_4 := blk_frozen BK179.out 4; have hfz10_5 := blk_frozen BK179.out 5))
      refine bodyPost_ret (results_ct rfl _ _ gb179 67 #[.int .i64 t182, .int .i64 t183, .int .i64 t184, .int .i64 t185, .int .i64 t186, .int .i64 t187] (0, 0) _ rfl (by (with_reducible repeat (first | refine blk_drewN ?_ _ | refine blk_drew ?_ | refine blk_alloc ?_ _)); refine blk_put (cs := #[.int .i64 t182, .int .i64 t183, .int .i64 t184, .int .i64 t185, .int .i64 t186, .int .i64 0]) ?_ 5 _ rfl; (with_reducible repeat (first | refine blk_drewN ?_ _ | refine blk_drew ?_ | refine blk_alloc ?_ _)); refine blk_put (cs := #[.int .i64 t182, .int .i64 t183, .int .i64 t184, .int .i64 t185, .int .i64 0, .int .i64 0]) ?_ 4 _ rfl; (with_reducible repeat (first | refine blk_drewN ?_ _ | refine blk_drew ?_ | refine blk_alloc ?_ _)); refine blk_put (cs := #[.int .i64 t182, .int .i64 t183, .int .i64 t184, .int .i64 0, .int .i64 0, .int .i64 0]) ?_ 3 _ rfl; (with_reducible repeat (first | refine blk_drewN ?_ _ | refine blk_drew ?_ | refine blk_alloc ?_ _)); refine blk_put (cs := #[.int .i64 t182, .int .i64 t183, .int .i64 0, .int .i64 0, .int .i64 0, .int .i64 0]) ?_ 2 _ rfl; (with_reducible repeat (first | refine blk_drewN ?_ _ | refine blk_drew ?_ | refine blk_alloc ?_ _)); refine blk_put (cs := #[.int .i64 t182, .int .i64 0, .int .i64 0, .int .i64 0, .int .i64 0, .int .i64 0]) ?_ 1 _ rfl; (with_reducible repeat (first | refine blk_drewN ?_ _ | refine blk_drew ?_ | refine blk_alloc ?_ _)); refine blk_put (cs := #[.int .i64 0, .int .i64 0, .int .i64 0, .int .i64 0, .int .i64 0, .int .i64 0]) ?_ 0 _ rfl; (with_reducible repeat (first | refine blk_drewN ?_ _ | refine blk_drew ?_ | refine blk_alloc ?_ _)); exact BK179.out) Try.underlying67 rfl (by kernel_rfl)) rfl ?_
      exact ⟨by first | rfl | (simp [errW_none, errW_some] <;> rfl) | (simp [*, errW_none, errW_some] <;> rfl), by repeat (first | (with_reducible first | exact HB.out | apply below_alloc | apply pw_below_drewN | apply below_drew1 | refine below_set ?_ GE179.out) | exact HB.out)⟩
    · replace c6 := Bool.eq_false_iff.mpr c6
      subst c6
      have H1 : (some (0, 0, 0, 0, 0, 0, 2)) = some (r1, r2, r3, r4, r5, r6, r7) := by rw [if_neg (show ¬ (false = true) by decide)] at H; exact H
      clear H
      have H := H1
      clear H1
      simp only [Option.some.injEq, Prod.mk.injEq] at H
      obtain ⟨rfl, rfl, rfl, rfl, rfl, rfl, rfl⟩ := H
      go_enter Try.func49, Try.ntmps49
      go_wp2_with (first | ((with_reducible refine gate_dst (N := 4) rfl ?_); refine box_event ?hg (N := 4) ?hd (cs := #[.int .i64 0, .int .i64 0, .int .i64 0, .int .i64 0, .int .i64 0, .int .i64 0]) (t := 67) ?hr ?_; (case hd => rfl); (case hg => rfl); (case hr => first | (go_simp; done) | (go_simp; rfl)); intro gb179 hg w11 hbox hb; have n0_ := Aside0.mk (below_step (by repeat (first | (with_reducible first | exact HB.out | apply below_alloc | apply pw_below_drewN | apply below_drew1) | exact HB.out)) hb); have n1_ := Aside0.mk (hbox); have n2_ := Aside0.mk ((by rw [hg]; exact (below_size (by repeat (first | (with_reducible first | exact HB.out | apply below_alloc | apply pw_below_drewN | apply below_drew1) | exact HB.out))) : w.heap.size ≤ gb179)); have n3_ := Aside0.mk ((by rw [hg]; exact (below_size (by repeat (first | (with_reducible first | exact HB.out | apply below_alloc | apply pw_below_drewN | apply below_drew1) | exact HB.out))) : w.heap.size ≤ gb179)); clear HB; have HB := n0_; have BK179 := n1_; have GW179 := n2_; have GE179 := n3_; clear n0_ n1_ n2_ n3_; clear hb hbox hg) | ((with_reducible refine gate_callee (f := 47) rfl ?_); refine goesL_ (some 7) rfl rfl Try.func47 (by kernel_rfl) rfl #[.int .i64 a0] rfl (by (try simp only [List.map_toArray, List.map_cons, List.map_nil]); first | done | rfl | (simp only [List.length_drop, List.length_take]; rfl)) ?_; (with_reducible refine (masterdiscref16_Time.calls a0 true _ A3.out).mono ?_); rintro e w' ⟨rfl, ⟨nd, rfl⟩⟩; refine ⟨_, rfl, ?_⟩; (try (rw [drewN_self w11]; generalize hq_ : World.drewN w11 _ = w11; have n0_ : Aside0 (w11.heap[gb179]? = some (.cells #[.int .i64 0, .int .i64 0, .int .i64 0, .int .i64 0, .int .i64 0, .int .i64 0] 67 (0, 0))) := ⟨by rw [← hq_]; exact (by (with_reducible repeat (first | refine blk_drewN ?_ _ | refine blk_drew ?_ | refine blk_alloc ?_ _)); exact BK179.out)⟩; have n1_ : Aside0 (Below w.heap.size w w11) := ⟨by rw [← hq_]; exact (by repeat (first | (with_reducible first | exact HB.out | apply below_alloc | apply pw_below_drewN | apply below_drew1 | refine below_set ?_ GE179.out) | exact HB.out))⟩; clear BK179 HB hq_; have BK179 := n0_; have HB := n1_; clear n0_ n1_))) | (go_at_call 71; (with_reducible refine (masterdiscref16_Zone.calls a1 false _ A5.out).mono ?_); rintro e w' ⟨rfl, ⟨nd, rfl⟩⟩; (try (rw [drewN_self w11]; generalize hq_ : World.drewN w11 _ = w11; have n0_ : Aside0 (w11.heap[gb179]? = some (.cells #[.int .i64 0, .int .i64 0, .int .i64 0, .int .i64 0, .int .i64 0, .int .i64 0] 67 (0, 0))) := ⟨by rw [← hq_]; exact (by (with_reducible repeat (first | refine blk_drewN ?_ _ | refine blk_drew ?_ | refine blk_alloc ?_ _)); exact BK179.out)⟩; have n1_ : Aside0 (Below w.heap.size w w11) := ⟨by rw [← hq_]; exact (by repeat (first | (with_reducible first | exact HB.out | apply below_alloc | apply pw_below_drewN | apply below_drew1 | refine below_set ?_ GE179.out) | exact HB.out))⟩; clear BK179 HB hq_; have BK179 := n0_; have HB := n1_; clear n0_ n1_)); have hcz12_0 : w11.cell? ⟨gb179, 0, none⟩ = some (.int .i64 0) := (blk_cell BK179.out 0).trans rfl; have hcz12_1 : w11.cell? ⟨gb179, 1, none⟩ = some (.int .i64 0) := (blk_cell BK179.out 1).trans rfl; have hcz12_2 : w11.cell? ⟨gb179, 2, none⟩ = some (.int .i64 0) := (blk_cell BK179.out 2).trans rfl; have hcz12_3 : w11.cell? ⟨gb179, 3, none⟩ = some (.int .i64 0) := (blk_cell BK179.out 3).trans rfl; have hcz12_4 : w11.cell? ⟨gb179, 4, none⟩ = some (.int .i64 0) := (blk_cell BK179.out 4).trans rfl; have hcz12_5 : w11.cell? ⟨gb179, 5, none⟩ = some (.int .i64 0) := (blk_cell BK179.out 5).trans rfl; have hfz12_0 := blk_frozen BK179.out 0; have hfz12_1 := blk_frozen BK179.out 1; have hfz12_2 := blk_frozen BK179.out 2; have hfz12_3 := blk_frozen BK179.out 3; have hfz12_4 := blk_frozen BK179.out 4; have hfz12_5 := blk_frozen BK179.out 5))
      refine bodyPost_ret (results_ct rfl _ _ gb179 67 #[.int .i64 0, .int .i64 0, .int .i64 0, .int .i64 0, .int .i64 0, .int .i64 0] (0, 0) _ rfl (by (with_reducible repeat (first | refine blk_drewN ?_ _ | refine blk_drew ?_ | refine blk_alloc ?_ _)); refine blk_put (cs := #[.int .i64 0, .int .i64 0, .int .i64 0, .int .i64 0, .int .i64 0, .int .i64 0]) ?_ 5 _ rfl; (with_reducible repeat (first | refine blk_drewN ?_ _ | refine blk_drew ?_ | refine blk_alloc ?_ _)); refine blk_put (cs := #[.int .i64 0, .int .i64 0, .int .i64 0, .int .i64 0, .int .i64 0, .int .i64 0]) ?_ 4 _ rfl; (with_reducible repeat (first | refine blk_drewN ?_ _ | refine blk_drew ?_ | refine blk_alloc ?_ _)); refine blk_put (cs := #[.int .i64 0, .int .i64 0, .int .i64 0, .int .i64 0, .int .i64 0, .int .i64 0]) ?_ 3 _ rfl; (with_reducible repeat (first | refine blk_drewN ?_ _ | refine blk_drew ?_ | refine blk_alloc ?_ _)); refine blk_put (cs := #[.int .i64 0, .int .i64 0, .int .i64 0, .int .i64 0, .int .i64 0, .int .i64 0]) ?_ 2 _ rfl; (with_reducible repeat (first | refine blk_drewN ?_ _ | refine blk_drew ?_ | refine blk_alloc ?_ _)); refine blk_put (cs := #[.int .i64 0, .int .i64 0, .int .i64 0, .int .i64 0, .int .i64 0, .int .i64 0]) ?_ 1 _ rfl; (with_reducible repeat (first | refine blk_drewN ?_ _ | refine blk_drew ?_ | refine blk_alloc ?_ _)); refine blk_put (cs := #[.int .i64 0, .int .i64 0, .int .i64 0, .int .i64 0, .int .i64 0, .int .i64 0]) ?_ 0 _ rfl; (with_reducible repeat (first | refine blk_drewN ?_ _ | refine blk_drew ?_ | refine blk_alloc ?_ _)); exact BK179.out) Try.underlying67 rfl (by kernel_rfl)) rfl ?_
      exact ⟨by first | rfl | (simp [errW_none, errW_some] <;> rfl) | (simp [*, errW_none, errW_some] <;> rfl), by repeat (first | (with_reducible first | exact HB.out | apply below_alloc | apply pw_below_drewN | apply below_drew1 | refine below_set ?_ GE179.out) | exact HB.out)⟩
  · replace c4 := Bool.eq_false_iff.mpr c4
    subst c4
    have H1 : (some (0, 0, 0, 0, 0, 0, 2)) = some (r1, r2, r3, r4, r5, r6, r7) := by rw [if_neg (show ¬ (false = true) by decide)] at H; exact H
    clear H
    have H := H1
    clear H1
    simp only [Option.some.injEq, Prod.mk.injEq] at H
    obtain ⟨rfl, rfl, rfl, rfl, rfl, rfl, rfl⟩ := H
    go_enter Try.func49, Try.ntmps49
    go_wp2_with (first | ((with_reducible refine gate_dst (N := 4) rfl ?_); refine box_event ?hg (N := 4) ?hd (cs := #[.int .i64 0, .int .i64 0, .int .i64 0, .int .i64 0, .int .i64 0, .int .i64 0]) (t := 67) ?hr ?_; (case hd => rfl); (case hg => rfl); (case hr => first | (go_simp; done) | (go_simp; rfl)); intro gb179 hg w13 hbox hb; have n0_ := Aside0.mk (below_step (by repeat (first | (with_reducible first | exact HB.out | apply below_alloc | apply pw_below_drewN | apply below_drew1) | exact HB.out)) hb); have n1_ := Aside0.mk (hbox); have n2_ := Aside0.mk ((by rw [hg]; exact (below_size (by repeat (first | (with_reducible first | exact HB.out | apply below_alloc | apply pw_below_drewN | apply below_drew1) | exact HB.out))) : w.heap.size ≤ gb179)); have n3_ := Aside0.mk ((by rw [hg]; exact (below_size (by repeat (first | (with_reducible first | exact HB.out | apply below_alloc | apply pw_below_drewN | apply below_drew1) | exact HB.out))) : w.heap.size ≤ gb179)); clear HB; have HB := n0_; have BK179 := n1_; have GW179 := n2_; have GE179 := n3_; clear n0_ n1_ n2_ n3_; clear hb hbox hg) | ((with_reducible refine gate_callee (f := 47) rfl ?_); refine goesL_ (some 7) rfl rfl Try.func47 (by kernel_rfl) rfl #[.int .i64 a0] rfl (by (try simp only [List.map_toArray, List.map_cons, List.map_nil]); first | done | rfl | (simp only [List.length_drop, List.length_take]; rfl)) ?_; (with_reducible refine (masterdiscref16_Time.calls a0 false _ A3.out).mono ?_); rintro e w' ⟨rfl, ⟨nd, rfl⟩⟩; refine ⟨_, rfl, ?_⟩; (try (rw [drewN_self w13]; generalize hq_ : World.drewN w13 _ = w13; have n0_ : Aside0 (w13.heap[gb179]? = some (.cells #[.int .i64 0, .int .i64 0, .int .i64 0, .int .i64 0, .int .i64 0, .int .i64 0] 67 (0, 0))) := ⟨by rw [← hq_]; exact (by (with_reducible repeat (first | refine blk_drewN ?_ _ | refine blk_drew ?_ | refine blk_alloc ?_ _)); exact BK179.out)⟩; have n1_ : Aside0 (Below w.heap.size w w13) := ⟨by rw [← hq_]; exact (by repeat (first | (with_reducible first | exact HB.out | apply below_alloc | apply pw_below_drewN | apply below_drew1 | refine below_set ?_ GE179.out) | exact HB.out))⟩; clear BK179 HB hq_; have BK179 := n0_; have HB := n1_; clear n0_ n1_)); have hcz14_0 : w13.cell? ⟨gb179, 0, none⟩ = some (.int .i64 0) := (blk_cell BK179.out 0).trans rfl; have hcz14_1 : w13.cell? ⟨gb179, 1, none⟩ = some (.int .i64 0) := (blk_cell BK179.out 1).trans rfl; have hcz14_2 : w13.cell? ⟨gb179, 2, none⟩ = some (.int .i64 0) := (blk_cell BK179.out 2).trans rfl; have hcz14_3 : w13.cell? ⟨gb179, 3, none⟩ = some (.int .i64 0) := (blk_cell BK179.out 3).trans rfl; have hcz14_4 : w13.cell? ⟨gb179, 4, none⟩ = some (.int .i64 0) := (blk_cell BK179.out 4).trans rfl; have hcz14_5 : w13.cell? ⟨gb179, 5, none⟩ = some (.int .i64 0) := (blk_cell BK179.out 5).trans rfl; have hfz14_0 := blk_frozen BK179.out 0; have hfz14_1 := blk_frozen BK179.out 1; have hfz14_2 := blk_frozen BK179.out 2; have hfz14_3 := blk_frozen BK179.out 3; have hfz14_4 := blk_frozen BK179.out 4; have hfz14_5 := blk_frozen BK179.out 5))
    refine bodyPost_ret (results_ct rfl _ _ gb179 67 #[.int .i64 0, .int .i64 0, .int .i64 0, .int .i64 0, .int .i64 0, .int .i64 0] (0, 0) _ rfl (by (with_reducible repeat (first | refine blk_drewN ?_ _ | refine blk_drew ?_ | refine blk_alloc ?_ _)); refine blk_put (cs := #[.int .i64 0, .int .i64 0, .int .i64 0, .int .i64 0, .int .i64 0, .int .i64 0]) ?_ 5 _ rfl; (with_reducible repeat (first | refine blk_drewN ?_ _ | refine blk_drew ?_ | refine blk_alloc ?_ _)); refine blk_put (cs := #[.int .i64 0, .int .i64 0, .int .i64 0, .int .i64 0, .int .i64 0, .int .i64 0]) ?_ 4 _ rfl; (with_reducible repeat (first | refine blk_drewN ?_ _ | refine blk_drew ?_ | refine blk_alloc ?_ _)); refine blk_put (cs := #[.int .i64 0, .int .i64 0, .int .i64 0, .int .i64 0, .int .i64 0, .int .i64 0]) ?_ 3 _ rfl; (with_reducible repeat (first | refine blk_drewN ?_ _ | refine blk_drew ?_ | refine blk_alloc ?_ _)); refine blk_put (cs := #[.int .i64 0, .int .i64 0, .int .i64 0, .int .i64 0, .int .i64 0, .int .i64 0]) ?_ 2 _ rfl; (with_reducible repeat (first | refine blk_drewN ?_ _ | refine blk_drew ?_ | refine blk_alloc ?_ _)); refine blk_put (cs := #[.int .i64 0, .int .i64 0, .int .i64 0, .int .i64 0, .int .i64 0, .int .i64 0]) ?_ 1 _ rfl; (with_reducible repeat (first | refine blk_drewN ?_ _ | refine blk_drew ?_ | refine blk_alloc ?_ _)); refine blk_put (cs := #[.int .i64 0, .int .i64 0, .int .i64 0, .int .i64 0, .int .i64 0, .int .i64 0]) ?_ 0 _ rfl; (with_reducible repeat (first | refine blk_drewN ?_ _ | refine blk_drew ?_ | refine blk_alloc ?_ _)); exact BK179.out) Try.underlying67 rfl (by kernel_rfl)) rfl ?_
    exact ⟨by first | rfl | (simp [errW_none, errW_some] <;> rfl) | (simp [*, errW_none, errW_some] <;> rfl), by repeat (first | (with_reducible first | exact HB.out | apply below_alloc | apply pw_below_drewN | apply below_drew1 | refine below_set ?_ GE179.out) | exact HB.out)⟩

/-! ### masterdiscref16_signed: function 50 -/
def masterdiscref16_signed.f (a0 : Int) : Option (Int) := some ((Int.tmod (wrap64 (a0 + 256)) 256) % 256)
set_option maxHeartbeats 8000000 in
set_option maxRecDepth 100000 in
theorem masterdiscref16_signed.calls (a0 : Int) (r : Int) (w : World) (h : masterdiscref16_signed.f a0 = some r) :
    Calls Try.prog 50 #[.int .i64 a0] w fun e w' => e = .returned (.int .u8 r) ∧ Drawn0 w w' := by
  have H : (some ((Int.tmod (wrap64 (a0 + 256)) 256) % 256)) = some r := h
  clear h
  obtain rfl := Option.some.inj H
  go_enter Try.func50, Try.ntmps50
  go_wp2
  go_ret
  exact ⟨by first | rfl | (simp; done) | (simp [*]; done), by repeat (first | exact Drawn0.refl _ | apply Drawn0.step)⟩

end Go.Proofs.Ytagnefbgclpccaa.A
