-- Written by a program of this session's, hprint.py, out of the translation. Not trusted: Lean checks it.
import Derived.Test.YtagnefbgclpccaaAx0
import Derived.Test.YtagnefbgclpccaaAx1
import Derived.Test.YtagnefbgclpccaaAx8
import Derived.Test.YtagnefbgclpccaaAx10
import Derived.Test.YtagnefbgclpccaaAx12
import Derived.Test.YtagnefbgclpccaaAx18
import Derived.Test.YtagnefbgclpccaaAx19
import Derived.Test.YtagnefbgclpccaaH2h
import Derived.Test.YtagnefbgclpccaaH3
namespace Go.Proofs.Ytagnefbgclpccaa.A
open Go.RowKit Go.Proofs.Ytagnefbgclpccaa.H Go.Proofs.YtagnefbgclpccaaW.PrintWords Go.Proofs.YtagnefbgclpccaaW.PrintLast Go.Proofs.YtagnefbgclpccaaW.PrintMore
attribute [local go_sem] max2_int min2_int max_two min_two max_three min_three max_four min_four   -- for this text's walks alone
set_option linter.unusedVariables false
set_option linter.unusedSimpArgs false

attribute [local go_sem high] eqA23
/-! ### masterdiscref01_ReadBoth: function 38 -/
def masterdiscref01_ReadBoth.j0 : Nat → ByteArray → Int → Int → Bool → Option (Int × Bool × Int)
  | 0, _, _, _, _ => none
  | k + 1, x0, x1, x2, x22 => if x22 = true then (some (0, false, 1)) else ((masterdiscref01_part.f x0 x1 (wrap64 (2 * x2))).bind fun bt277 => (if bt277.2 = true then (if 0 ≤ x2 then (if x2 ≤ (bt277.1.size : Int) then ((masterdiscref01_value.f k (bt277.1.extract 0 (x2 : Int).toNat)).bind fun bt279 => ((masterdiscref01_Reverse.f k (bt277.1.extract 0 (x2 : Int).toNat)).bind fun t281 => (some (bt279.1, ((bt277.1.extract (x2 : Int).toNat bt277.1.size).toList == t281.toList), 0)))) else (none)) else (none)) else (some (0, false, 2))))
def masterdiscref01_ReadBoth.f (k : Nat) (a0 : ByteArray) (a1 : Int) (a2 : Int) : Option (Int × Bool × Int) := if a2 = 1 then (masterdiscref01_ReadBoth.j0 k a0 a1 a2 false) else (if a2 = 2 then (masterdiscref01_ReadBoth.j0 k a0 a1 a2 false) else (masterdiscref01_ReadBoth.j0 k a0 a1 a2 (a2 != 4)))
def masterdiscref01_ReadBoth.T7 : Bool × List (List Nat × List Nat) := (true, [([], []), ([], []), ([], []), ([1, 2], [1, 2]), ([], []), ([], []), ([4, 5], [4, 5]), ([6], [6]), ([3, 7], [3, 7]), ([0, 7, 0], [0]), ([8, 9, 0, 1, 2, 3, 4, 5, 6, 7, 8, 9], [8]), ([10, 0, 1, 2, 3, 4, 5, 6, 7, 8, 9, 10], [])])
def masterdiscref01_ReadBoth.B7 : List Nat := [0, 0, 0, 6, 0, 0, 48, 112, 254, 241, 1023, 2047]
theorem masterdiscref01_ReadBoth.tab7 : rtab .any (opsOf Try.f38 7) = masterdiscref01_ReadBoth.T7 := by kernel_rfl
theorem masterdiscref01_ReadBoth.bits7 : waitsOk masterdiscref01_ReadBoth.T7.2 masterdiscref01_ReadBoth.B7 = true := by kernel_rfl
set_option maxHeartbeats 8000000 in
set_option maxRecDepth 100000 in
theorem masterdiscref01_ReadBoth.calls (k : Nat) (a0 : ByteArray) (a1 : Int) (a2 : Int) (r1 : Int) (r2 : Bool) (r3 : Int) (w : World) (h : masterdiscref01_ReadBoth.f k a0 a1 a2 = some (r1, r2, r3)) :
    Calls Try.prog 38 #[.string a0, .int .i64 a1, .int .i64 a2] w fun e w' => e = .returned (.tuple #[.int .i64 r1, .bool r2, .int .i64 r3]) ∧ Below w.heap.size w w' := by
  have HB := Aside0.mk (Below.refl w.heap.size w)
  have H : (if a2 = 1 then (masterdiscref01_ReadBoth.j0 k a0 a1 a2 false) else (if a2 = 2 then (masterdiscref01_ReadBoth.j0 k a0 a1 a2 false) else (masterdiscref01_ReadBoth.j0 k a0 a1 a2 (a2 != 4)))) = some (r1, r2, r3) := h
  clear h
  have HC4 := Aside0.mk H
  clear H
  go_enter Try.func38, Try.ntmps38
  go_upto_region 1 with (fail)
  go_cut [22] (fun v22 wc => ∃ (kq : Nat) (x22_3 : Bool), v22 = .bool x22_3 ∧ Aside0 (masterdiscref01_ReadBoth.j0 kq a0 a1 a2 x22_3 = some (r1, r2, r3)) ∧ Aside0 (kq ≤ k) ∧ Aside0 (Below w.heap.size w wc))
  case first =>
    have H := HC4.out
    clear HC4
    by_cases c5 : a2 = 1
    · rw [if_pos c5] at H
      have c5b0 : (a2 == 1) = true := beq_iff_eq.mpr c5
      have c5b1 : (a2 != 1) = false := bne_eq_false_iff_eq.mpr c5
      clear c5
      (first | rw [c5b0] | (simp only [i64_w, i32_w]; rw [c5b0]) | skip)
      have H' := Aside0.mk H
      clear H
      go_wp2
      go_meet
      case rel => exact ⟨_, (false), (by first | rfl | (simp; done) | (simp [*]; done)), H', ⟨by first | omega | exact Nat.le_refl _⟩, ⟨by repeat (first | (with_reducible first | exact HB.out | apply below_alloc | apply pw_below_drewN | apply below_drew1) | exact HB.out)⟩⟩
    · rw [if_neg c5] at H
      have c5b0 : (a2 == 1) = false := beq_eq_false_iff_ne.mpr c5
      have c5b1 : (a2 != 1) = true := bne_iff_ne.mpr c5
      (first | rw [c5b0] | (simp only [i64_w, i32_w]; rw [c5b0]) | skip)
      by_cases c6 : a2 = 2
      · rw [if_pos c6] at H
        have c6b0 : (a2 == 2) = true := beq_iff_eq.mpr c6
        have c6b1 : (a2 != 2) = false := bne_eq_false_iff_eq.mpr c6
        clear c6
        have H' := Aside0.mk H
        clear H
        go_wp2
        go_meet
        case rel => exact ⟨_, (false), (by first | rfl | (simp; done) | (simp [*]; done)), H', ⟨by first | omega | exact Nat.le_refl _⟩, ⟨by repeat (first | (with_reducible first | exact HB.out | apply below_alloc | apply pw_below_drewN | apply below_drew1) | exact HB.out)⟩⟩
      · rw [if_neg c6] at H
        have c6b0 : (a2 == 2) = false := beq_eq_false_iff_ne.mpr c6
        have c6b1 : (a2 != 2) = true := bne_iff_ne.mpr c6
        have H' := Aside0.mk H
        clear H
        go_wp2
        go_meet
        case rel => exact ⟨_, ((a2 != 4)), (by first | rfl | (simp; done) | (simp [*]; done)), H', ⟨by first | omega | exact Nat.le_refl _⟩, ⟨by repeat (first | (with_reducible first | exact HB.out | apply below_alloc | apply pw_below_drewN | apply below_drew1) | exact HB.out)⟩⟩
  case rest =>
    clear HC4
    try clear p2
    try clear c3
    try clear c5
    try clear c5b0
    try clear c5b1
    try clear c6
    try clear c6b0
    try clear c6b1
    obtain ⟨kq, x22_3, rfl, HA, HJ3, HB⟩ := hcut
    cases kq with
    | zero => exact absurd HA.out (by simp [masterdiscref01_ReadBoth.j0])
    | succ kj3 =>
      have H := HA.out
      clear HA
      simp only [masterdiscref01_ReadBoth.j0] at H
      by_cases c7 : x22_3 = true
      · subst c7
        have H1 : (some (0, false, 1)) = some (r1, r2, r3) := by rw [if_pos rfl] at H; exact H
        clear H
        have H := H1
        clear H1
        simp only [Option.some.injEq, Prod.mk.injEq] at H
        obtain ⟨rfl, rfl, rfl⟩ := H
        go_wp2
        go_ret3
        exact ⟨by first | rfl | (simp [errW_none, errW_some] <;> rfl) | (simp [*, errW_none, errW_some] <;> rfl), by repeat (first | (with_reducible first | exact HB.out | apply below_alloc | apply pw_below_drewN | apply below_drew1) | exact HB.out)⟩
      · replace c7 := Bool.eq_false_iff.mpr c7
        subst c7
        have H1 : ((masterdiscref01_part.f a0 a1 (wrap64 (2 * a2))).bind fun bt277 => (if bt277.2 = true then (if 0 ≤ a2 then (if a2 ≤ (bt277.1.size : Int) then ((masterdiscref01_value.f kj3 (bt277.1.extract 0 (a2 : Int).toNat)).bind fun bt279 => ((masterdiscref01_Reverse.f kj3 (bt277.1.extract 0 (a2 : Int).toNat)).bind fun t281 => (some (bt279.1, ((bt277.1.extract (a2 : Int).toNat bt277.1.size).toList == t281.toList), 0)))) else (none)) else (none)) else (some (0, false, 2)))) = some (r1, r2, r3) := by rw [if_neg (show ¬ (false = true) by decide)] at H; exact H
        clear H
        have H := H1
        clear H1
        replace H := Option.bind_eq_some_iff.mp H
        obtain ⟨⟨t277, t278⟩, A80, H⟩ := H
        replace H : (if t278 = true then (if 0 ≤ a2 then (if a2 ≤ (t277.size : Int) then ((masterdiscref01_value.f kj3 (t277.extract 0 (a2 : Int).toNat)).bind fun bt279 => ((masterdiscref01_Reverse.f kj3 (t277.extract 0 (a2 : Int).toNat)).bind fun t281 => (some (bt279.1, ((t277.extract (a2 : Int).toNat t277.size).toList == t281.toList), 0)))) else (none)) else (none)) else (some (0, false, 2))) = some (r1, r2, r3) := H
        have A8 := Aside0.mk A80
        clear A80
        by_cases c9 : t278 = true
        · subst c9
          have H1 : (if 0 ≤ a2 then (if a2 ≤ (t277.size : Int) then ((masterdiscref01_value.f kj3 (t277.extract 0 (a2 : Int).toNat)).bind fun bt279 => ((masterdiscref01_Reverse.f kj3 (t277.extract 0 (a2 : Int).toNat)).bind fun t281 => (some (bt279.1, ((t277.extract (a2 : Int).toNat t277.size).toList == t281.toList), 0)))) else (none)) else (none)) = some (r1, r2, r3) := by rw [if_pos rfl] at H; exact H
          clear H
          have H := H1
          clear H1
          by_cases c10 : 0 ≤ a2
          · rw [if_pos c10] at H
            have c10b0 := eq_true c10
            have c10b1 : decide (0 ≤ a2) = true := decide_eq_true c10
            clear c10
            by_cases c11 : a2 ≤ (t277.size : Int)
            · rw [if_pos c11] at H
              have c11b0 := eq_true c11
              have c11b1 : decide (a2 ≤ (t277.size : Int)) = true := decide_eq_true c11
              clear c11
              replace H := Option.bind_eq_some_iff.mp H
              obtain ⟨⟨t279, t280⟩, A120, H⟩ := H
              replace H : ((masterdiscref01_Reverse.f kj3 (t277.extract 0 (a2 : Int).toNat)).bind fun t281 => (some (t279, ((t277.extract (a2 : Int).toNat t277.size).toList == t281.toList), 0))) = some (r1, r2, r3) := H
              have A12 := Aside0.mk A120
              clear A120
              have c13b0 := eq_true (of_decide_eq_true (by first | (with_reducible assumption) | assumption) : 0 ≤ a2)
              have c14b0 := eq_true (of_decide_eq_true (by first | (with_reducible assumption) | assumption) : a2 ≤ (t277.size : Int))
              have c15b0 := eq_true (of_decide_eq_true (by first | (with_reducible assumption) | assumption) : 0 ≤ a2)
              have c16b0 := eq_true (of_decide_eq_true (by first | (with_reducible assumption) | assumption) : a2 ≤ (t277.size : Int))
              replace H := Option.bind_eq_some_iff.mp H
              obtain ⟨t281, A170, H⟩ := H
              replace H : (some (t279, ((t277.extract (a2 : Int).toNat t277.size).toList == t281.toList), 0)) = some (r1, r2, r3) := H
              have A17 := Aside0.mk A170
              clear A170
              simp only [Option.some.injEq, Prod.mk.injEq] at H
              obtain ⟨rfl, rfl, rfl⟩ := H
              try go_wp2_with (first | ((with_reducible refine gate_callee (f := 61) rfl ?_); refine goesL_ (some 28) rfl rfl Try.func61 (by kernel_rfl) rfl #[.string a0, .int .i64 a1, .int .i64 (wrap64 (2 * a2))] rfl (by (try simp only [List.map_toArray, List.map_cons, List.map_nil]); first | done | rfl | (simp only [List.length_drop, List.length_take]; rfl)) ?_; (with_reducible refine (masterdiscref01_part.calls a0 a1 (wrap64 (2 * a2)) t277 true _ A8.out).mono ?_); rintro e w' ⟨rfl, ⟨nd, rfl⟩⟩; refine ⟨_, rfl, ?_⟩) | ((with_reducible refine gate_callee (f := 62) rfl ?_); refine goesL_ (some 37) rfl rfl Try.func62 (by kernel_rfl) rfl #[.string (t277.extract 0 (a2 : Int).toNat)] rfl (by (try simp only [List.map_toArray, List.map_cons, List.map_nil]); first | done | rfl | (simp only [List.length_drop, List.length_take]; rfl)) ?_; (with_reducible refine (masterdiscref01_value.calls kj3 (t277.extract 0 (a2 : Int).toNat) t279 t280 _ A12.out).mono ?_); rintro e w' ⟨rfl, ⟨nd, rfl⟩⟩; refine ⟨_, rfl, ?_⟩))
              (try (rw [drewN_self wc]; generalize hq_ : World.drewN wc _ = wc; have n0_ : Aside0 (Below w.heap.size w wc) := ⟨by rw [← hq_]; exact (by repeat (first | (with_reducible first | exact HB.out | apply below_alloc | apply pw_below_drewN | apply below_drew1) | exact HB.out))⟩; clear HB hq_; have HB := n0_; clear n0_))
              have n0_ := Aside0.mk (below_drew1 HB.out)
              clear HB
              have HB := n0_
              clear n0_
              refine start_ (n := 12) (S := fun w' => True) (ds := []) #[false, false, false, false, false, false, false, false, false, false, false, false] (by kernel_rfl) rfl rfl trivial (fun hHeld => ?_); refine with_tabW masterdiscref01_ReadBoth.tab7 masterdiscref01_ReadBoth.bits7 (fun HT_ HW_ => ?_)
              generalize wc.drew = w18 at HB hHeld ⊢
              refine pure_ (i := 0) (N := some 40) (v := ?_) (a' := ?_) #[true, false, false, false, false, false, false, false, false, false, false, false] rfl rfl (any_of HT_.out (by kernel_rfl)) (fun _ _ _ h => h) (Or.inl ⟨by rfl, ?_⟩) ?_ ?_
              rotate_left
              · intro w'
                go_simp
                with_reducible rfl
              rotate_left
              · simp only [Act.put, List.setIfInBounds_toArray, List.set_cons_zero, List.set_cons_succ, i64_w, i32_w]
                rfl
              refine pure_ (i := 1) (N := some 41) (v := ?_) (a' := ?_) #[true, true, false, false, false, false, false, false, false, false, false, false] rfl rfl (any_of HT_.out (by kernel_rfl)) (fun _ _ _ h => h) (Or.inl ⟨by rfl, ?_⟩) ?_ ?_
              rotate_left
              · intro w'
                go_simp
                with_reducible rfl
              rotate_left
              · simp only [Act.put, List.setIfInBounds_toArray, List.set_cons_zero, List.set_cons_succ, i64_w, i32_w]
                rfl
              refine pure_ (i := 2) (N := some 42) (v := ?_) (a' := ?_) #[true, true, true, false, false, false, false, false, false, false, false, false] rfl rfl (any_of HT_.out (by kernel_rfl)) (fun _ _ _ h => h) (Or.inl ⟨by rfl, ?_⟩) ?_ ?_
              rotate_left
              · intro w'
                go_simp
                with_reducible rfl
              rotate_left
              · simp only [Act.put, List.setIfInBounds_toArray, List.set_cons_zero, List.set_cons_succ, i64_w, i32_w]
                rfl
              refine pure_ (i := 3) (N := some 43) (v := ?_) (a' := ?_) #[true, true, true, true, false, false, false, false, false, false, false, false] rfl rfl (any_of HT_.out (by kernel_rfl)) (fun _ _ _ h => h) (Or.inl ⟨by rfl, ?_⟩) ?_ ?_
              rotate_left
              · intro w'
                go_simp
                with_reducible rfl
              rotate_left
              · simp only [Act.put, List.setIfInBounds_toArray, List.set_cons_zero, List.set_cons_succ, i64_w, i32_w]
                rfl
              refine pure_ (i := 4) (N := some 44) (v := ?_) (a' := ?_) #[true, true, true, true, true, false, false, false, false, false, false, false] rfl rfl (any_of HT_.out (by kernel_rfl)) (fun _ _ _ h => h) (Or.inl ⟨by rfl, ?_⟩) ?_ ?_
              rotate_left
              · intro w'
                go_simp
                with_reducible rfl
              rotate_left
              · simp only [Act.put, List.setIfInBounds_toArray, List.set_cons_zero, List.set_cons_succ, i64_w, i32_w]
                rfl
              refine pure_ (i := 5) (N := some 45) (v := ?_) (a' := ?_) #[true, true, true, true, true, true, false, false, false, false, false, false] rfl rfl (any_of HT_.out (by kernel_rfl)) (fun _ _ _ h => h) (Or.inl ⟨by rfl, ?_⟩) ?_ ?_
              rotate_left
              · intro w'
                go_simp
                with_reducible rfl
              rotate_left
              · simp only [Act.put, List.setIfInBounds_toArray, List.set_cons_zero, List.set_cons_succ, i64_w, i32_w]
                rfl
              refine pure_ (i := 6) (N := some 46) (v := ?_) (a' := ?_) #[true, true, true, true, true, true, true, false, false, false, false, false] rfl rfl (any_of HT_.out (by kernel_rfl)) (fun _ _ _ h => h) (Or.inl ⟨by rfl, ?_⟩) ?_ ?_
              rotate_left
              · intro w'
                go_simp
                with_reducible rfl
              rotate_left
              · simp only [Act.put, List.setIfInBounds_toArray, List.set_cons_zero, List.set_cons_succ, i64_w, i32_w]
                rfl
              refine one_ (i := 7) (N := some 47) #[true, true, true, true, true, true, true, true, false, false, false, false] rfl rfl (one_of HT_.out (by kernel_rfl)) (by decide) (fun K hK => ?_)
              refine goes_ Try.func63 (by kernel_rfl) rfl #[.string (t277.extract 0 (a2 : Int).toNat)] (by rfl) rfl rfl (by (try simp only [List.map_toArray, List.map_cons, List.map_nil]); first | done | rfl | (simp only [List.length_drop, List.length_take]; rfl)) ?_
              with_reducible refine (masterdiscref01_Reverse.calls kj3 (t277.extract 0 (a2 : Int).toNat) t281 _ A17.out).mono ?_
              rintro e w19 ⟨rfl, hb⟩
              refine ⟨_, rfl, ?_⟩
              have n0_ := Aside0.mk (below_step (by repeat (first | (with_reducible first | exact HB.out | apply below_alloc | apply pw_below_drewN | apply below_drew1) | exact HB.out)) hb)
              clear HB
              have HB := n0_
              clear n0_
              (try clear hb)
              (try clear hb2)
              (try clear hk)
              (try clear hi)
              refine hK.out _ _ trivial (fun hHeld => ?_)
              clear hK K
              refine norm_ (a' := ?_) ?_ ?_
              rotate_left
              · show Act.put _ (some 47) _ = _
                simp only [Act.put, List.setIfInBounds_toArray, List.set_cons_zero, List.set_cons_succ, i64_w, i32_w]
                rfl
              refine pure_ (i := 8) (N := some 48) (v := ?_) (a' := ?_) #[true, true, true, true, true, true, true, true, true, false, false, false] rfl rfl (any_of HT_.out (by kernel_rfl)) (fun _ _ _ h => h) (Or.inl ⟨by rfl, ?_⟩) ?_ ?_
              rotate_left
              · intro w'
                go_simp
                with_reducible rfl
              rotate_left
              · simp only [Act.put, List.setIfInBounds_toArray, List.set_cons_zero, List.set_cons_succ, i64_w, i32_w]
                rfl
              refine pure_ (i := 9) (N := some 6) (v := ?_) (a' := ?_) #[true, true, true, true, true, true, true, true, true, true, false, false] rfl rfl (any_of HT_.out (by kernel_rfl)) (fun _ _ _ h => h) (Or.inl ⟨by rfl, ?_⟩) ?_ ?_
              rotate_left
              · intro w'
                go_simp
                with_reducible rfl
              rotate_left
              · simp only [Act.put, List.setIfInBounds_toArray, List.set_cons_zero, List.set_cons_succ, i64_w, i32_w]
                rfl
              refine pure_ (i := 10) (N := some 7) (v := ?_) (a' := ?_) #[true, true, true, true, true, true, true, true, true, true, true, false] rfl rfl (any_of HT_.out (by kernel_rfl)) (fun _ _ _ h => h) (Or.inl ⟨by rfl, ?_⟩) ?_ ?_
              rotate_left
              · intro w'
                go_simp
                with_reducible rfl
              rotate_left
              · simp only [Act.put, List.setIfInBounds_toArray, List.set_cons_zero, List.set_cons_succ, i64_w, i32_w]
                rfl
              refine pure_ (i := 11) (N := some 8) (v := ?_) (a' := ?_) #[true, true, true, true, true, true, true, true, true, true, true, true] rfl rfl (any_of HT_.out (by kernel_rfl)) (fun _ _ _ h => h) (Or.inl ⟨by rfl, ?_⟩) ?_ ?_
              rotate_left
              · intro w'
                go_simp
                with_reducible rfl
              rotate_left
              · simp only [Act.put, List.setIfInBounds_toArray, List.set_cons_zero, List.set_cons_succ, i64_w, i32_w]
                rfl
              refine done_ (done_of HT_.out (by kernel_rfl)) ?_
              try go_wp2
              go_ret3
              exact ⟨by first | rfl | (simp [errW_none, errW_some] <;> rfl) | (simp [*, errW_none, errW_some] <;> rfl), by repeat (first | (with_reducible first | exact HB.out | apply below_alloc | apply pw_below_drewN | apply below_drew1) | exact HB.out)⟩
            · rw [if_neg c11] at H
              exact absurd H (by simp)
          · rw [if_neg c10] at H
            exact absurd H (by simp)
        · replace c9 := Bool.eq_false_iff.mpr c9
          subst c9
          have H1 : (some (0, false, 2)) = some (r1, r2, r3) := by rw [if_neg (show ¬ (false = true) by decide)] at H; exact H
          clear H
          have H := H1
          clear H1
          simp only [Option.some.injEq, Prod.mk.injEq] at H
          obtain ⟨rfl, rfl, rfl⟩ := H
          go_wp2_with (first | ((with_reducible refine gate_callee (f := 61) rfl ?_); refine goesL_ (some 28) rfl rfl Try.func61 (by kernel_rfl) rfl #[.string a0, .int .i64 a1, .int .i64 (wrap64 (2 * a2))] rfl (by (try simp only [List.map_toArray, List.map_cons, List.map_nil]); first | done | rfl | (simp only [List.length_drop, List.length_take]; rfl)) ?_; (with_reducible refine (masterdiscref01_part.calls a0 a1 (wrap64 (2 * a2)) t277 false _ A8.out).mono ?_); rintro e w' ⟨rfl, ⟨nd, rfl⟩⟩; refine ⟨_, rfl, ?_⟩))
          go_ret3
          exact ⟨by first | rfl | (simp [errW_none, errW_some] <;> rfl) | (simp [*, errW_none, errW_some] <;> rfl), by repeat (first | (with_reducible first | exact HB.out | apply below_alloc | apply pw_below_drewN | apply below_drew1) | exact HB.out)⟩

/-! ### masterdiscref20_Differ: function 19 -/
def masterdiscref20_Differ.j0 : Nat → ByteArray → List Int → Option (List Int)
  | 0, _, _ => none
  | k + 1, x0, x3 => (masterdiscref01_ReadBoth.f k x0 10 4).bind fun bt288 => (if bt288.2.1 = true then ((masterdiscref01_ReadBoth.f k x0 28 2).bind fun bt291 => (if bt291.2.1 = true then (some x3) else (if x3.length < 17592186044416 then (some (x3 ++ [28])) else (none)))) else (if x3.length < 17592186044416 then ((some (x3 ++ [10] : List Int)).bind fun y297 => ((masterdiscref01_ReadBoth.f k x0 28 2).bind fun bt300 => (if bt300.2.1 = true then (some y297) else (if y297.length < 17592186044416 then (some (y297 ++ [28])) else (none))))) else (none)))
def masterdiscref20_Differ.f (k : Nat) (a0 : ByteArray) : Option (List Int) := if (a0.size : Int) < 34 then (some ([] : List Int)) else ((masterdiscref01_ReadBoth.f k a0 2 4).bind fun bt282 => (if bt282.2.1 = true then (masterdiscref20_Differ.j0 k a0 ([] : List Int)) else (if ([] : List Int).length < 17592186044416 then (masterdiscref20_Differ.j0 k a0 (([] : List Int) ++ [2])) else (none))))
set_option maxHeartbeats 8000000 in
set_option maxRecDepth 100000 in
theorem masterdiscref20_Differ.calls (k : Nat) (a0 : ByteArray) (r : List Int) (w : World) (h : masterdiscref20_Differ.f k a0 = some r) :
    Calls Try.prog 19 #[.string a0] w fun e w' => ∃ v0_ : Value, e = .returned (v0_) ∧ Kd.R (Kd.int .i64) 3 w' w.heap.size (fun _ => True) v0_ r ∧ Below w.heap.size w w' := by
  have HB := Aside0.mk (Below.refl w.heap.size w)
  have H : (if (a0.size : Int) < 34 then (some ([] : List Int)) else ((masterdiscref01_ReadBoth.f k a0 2 4).bind fun bt282 => (if bt282.2.1 = true then (masterdiscref20_Differ.j0 k a0 ([] : List Int)) else (if ([] : List Int).length < 17592186044416 then (masterdiscref20_Differ.j0 k a0 (([] : List Int) ++ [2])) else (none))))) = some r := h
  clear h
  by_cases c2 : (a0.size : Int) < 34
  · rw [if_pos c2] at H
    have c2b0 : decide ((a0.size : Int) < 34) = true := decide_eq_true c2
    have c2b1 : decide (a0.size < 34) = true := decide_eq_true (by omega)
    clear c2
    obtain rfl := Option.some.inj H
    go_enter Try.func19, Try.ntmps19
    go_wp2
    go_ret
    exact ⟨_, by first | rfl | (simp [errW_none, errW_some] <;> rfl) | (simp [*, errW_none, errW_some] <;> rfl), by first | exact Kd.R_nil _ _ _ _ _ | exact Kd.N_nil _ _ _ _ _ | exact Kd.V_nil _ _ _ _ _ | exact Kd.Q_nil _ _ _ _ _ | exact Kd.S_nil _ _ _ _ _, by repeat (first | (with_reducible first | exact HB.out | apply below_alloc | apply pw_below_drewN | apply below_drew1) | exact HB.out)⟩
  · rw [if_neg c2] at H
    have c2b0 : decide ((a0.size : Int) < 34) = false := decide_eq_false c2
    have c2b1 : decide (a0.size < 34) = false := decide_eq_false (by omega)
    clear c2
    replace H := Option.bind_eq_some_iff.mp H
    obtain ⟨⟨t282, t283, t284⟩, A30, H⟩ := H
    replace H : (if t283 = true then (masterdiscref20_Differ.j0 k a0 ([] : List Int)) else (if ([] : List Int).length < 17592186044416 then (masterdiscref20_Differ.j0 k a0 (([] : List Int) ++ [2])) else (none))) = some r := H
    have A3 := Aside0.mk A30
    clear A30
    have HC4 := Aside0.mk H
    clear H
    go_enter Try.func19, Try.ntmps19
    go_upto_if 23 with (first | ((with_reducible refine gate_callee (f := 38) rfl ?_); refine goesL_ (some 18) rfl rfl Try.func38 (by kernel_rfl) rfl #[.string a0, .int .i64 2, .int .i64 4] rfl (by (try simp only [List.map_toArray, List.map_cons, List.map_nil]); first | done | rfl | (simp only [List.length_drop, List.length_take]; rfl)) ?_; (with_reducible refine (masterdiscref01_ReadBoth.calls k a0 2 4 t282 t283 t284 _ A3.out).mono ?_); rintro e w5 ⟨rfl, hb⟩; refine ⟨_, rfl, ?_⟩; have n0_ := Aside0.mk (below_step (by repeat (first | (with_reducible first | exact HB.out | apply below_alloc | apply pw_below_drewN | apply below_drew1) | exact HB.out)) hb); clear HB; have HB := n0_; clear n0_; (try clear hb); (try clear hb2); (try clear hk); (try clear hi)))
    (try simp only [Act.put, List.setIfInBounds_toArray, List.set_cons_zero, List.set_cons_succ])
    go_cut [3] (fun v3 wc => ∃ (kq : Nat) (x3_3 : List Int), Aside0 (masterdiscref20_Differ.j0 kq a0 x3_3 = some r) ∧ Aside0 (kq ≤ k) ∧ Aside0 (Kd.R (Kd.int .i64) 3 wc w.heap.size (fun _ => True) v3 x3_3) ∧ Aside0 (Below w.heap.size w wc))
    case first =>
      have H := HC4.out
      clear HC4
      by_cases c6 : t283 = true
      · subst c6
        have H1 : (masterdiscref20_Differ.j0 k a0 ([] : List Int)) = some r := by rw [if_pos rfl] at H; exact H
        clear H
        have H := H1
        clear H1
        have H' := Aside0.mk H
        clear H
        go_wp2
        go_meet
        case rel => exact ⟨_, (([] : List Int)), H', ⟨by first | omega | exact Nat.le_refl _⟩, ⟨by first | exact Kd.R_nil _ _ _ _ _ | exact Kd.N_nil _ _ _ _ _ | exact Kd.V_nil _ _ _ _ _ | exact Kd.Q_nil _ _ _ _ _ | exact Kd.S_nil _ _ _ _ _⟩, ⟨by repeat (first | (with_reducible first | exact HB.out | apply below_alloc | apply pw_below_drewN | apply below_drew1) | exact HB.out)⟩⟩
      · replace c6 := Bool.eq_false_iff.mpr c6
        subst c6
        have H1 : (if ([] : List Int).length < 17592186044416 then (masterdiscref20_Differ.j0 k a0 (([] : List Int) ++ [2])) else (none)) = some r := by rw [if_neg (show ¬ (false = true) by decide)] at H; exact H
        clear H
        have H := H1
        clear H1
        by_cases c7 : ([] : List Int).length < 17592186044416
        · rw [if_pos c7] at H
          have LMc7 := Aside0.mk c7
          clear c7
          obtain ⟨y285, hy285⟩ : ∃ y_ : List Int, y_ = (([] : List Int) ++ [2]) := ⟨_, rfl⟩
          replace H : (masterdiscref20_Differ.j0 k a0 y285) = some r := by first | (rw [hy285]; with_reducible exact H) | (have H2_ := (Option.bind_some _ _).symm.trans H; rw [hy285]; with_reducible exact H2_) | (have H2_ := (Option.bind_some _ _).symm.trans H; with_reducible exact H2_) | with_reducible exact H | (rw [hy285]; exact H) | exact H
          have Ny285 := Aside0.mk hy285
          clear hy285
          have H' := Aside0.mk H
          clear H
          go_wp2_with (first | ((with_reducible refine gate_builtin (b := .append) (xs := #[.tmp 24, .tmp 25]) rfl ?_); at_builtin; refine Kd.R_append (Kd.int .i64) (w0 := w) w.heap.size rfl (.tmp 24) (.tmp 25) 33 3 (.int .i64 0) 8 rfl Try.underlying33 info3 rfl (by decide) (by omega) (.slice none 0 0) ([] : List Int) 2 [.int .i64 2] (fun _ => True) (fun _ => False) rfl rfl ?aP (fun _ hk => hk.elim) ?aF ?aO ?aB ?aS ?aL ?_; (case aP => exact rfl); (case aB => exact (by repeat (first | (with_reducible first | exact HB.out | apply below_alloc | apply pw_below_drewN | apply below_drew1) | exact HB.out))); (case aF => exact (fun _ _ => trivial)); (case aO => exact ((Kd.R_nil _ _ _ _ (fun _ => True)))); (case aS => exact (below_size (by repeat (first | (with_reducible first | exact HB.out | apply below_alloc | apply pw_below_drewN | apply below_drew1) | exact HB.out)))); (case aL => have := LMc7.out; omega); intro v286 w8 ho hb hg hat; rw [← Ny285.out] at ho; have n0_ := Aside0.mk (hb); have n1_ := Aside0.mk (ho); clear HB; have HB := n0_; have HO287 := n1_; clear n0_ n1_; clear ho hb hg hat))
          go_meet
          case rel => exact ⟨_, (y285), H', ⟨by first | omega | exact Nat.le_refl _⟩, ⟨by (with_reducible repeat (first | apply Kd.R_alloc | apply Kd.R_drewN | apply Kd.R_drew)); exact HO287.out⟩, ⟨by repeat (first | (with_reducible first | exact HB.out | apply below_alloc | apply pw_below_drewN | apply below_drew1) | exact HB.out)⟩⟩
        · rw [if_neg c7] at H
          exact absurd H (by simp)
    case rest =>
      clear HC4
      try clear c1
      try clear c2
      try clear c2b0
      try clear c2b1
      try clear p2
      try clear c3
      try clear c6
      try clear c7
      obtain ⟨kq, x3_3, HA, HJ3, HO_3, HB⟩ := hcut
      cases kq with
      | zero => exact absurd HA.out (by simp [masterdiscref20_Differ.j0])
      | succ kj3 =>
        have H := HA.out
        clear HA
        simp only [masterdiscref20_Differ.j0] at H
        replace H := Option.bind_eq_some_iff.mp H
        obtain ⟨⟨t288, t289, t290⟩, A90, H⟩ := H
        replace H : (if t289 = true then ((masterdiscref01_ReadBoth.f kj3 a0 28 2).bind fun bt291 => (if bt291.2.1 = true then (some x3_3) else (if x3_3.length < 17592186044416 then (some (x3_3 ++ [28])) else (none)))) else (if x3_3.length < 17592186044416 then ((some (x3_3 ++ [10] : List Int)).bind fun y297 => ((masterdiscref01_ReadBoth.f kj3 a0 28 2).bind fun bt300 => (if bt300.2.1 = true then (some y297) else (if y297.length < 17592186044416 then (some (y297 ++ [28])) else (none))))) else (none))) = some r := H
        have A9 := Aside0.mk A90
        clear A90
        by_cases c10 : t289 = true
        · subst c10
          have H1 : ((masterdiscref01_ReadBoth.f kj3 a0 28 2).bind fun bt291 => (if bt291.2.1 = true then (some x3_3) else (if x3_3.length < 17592186044416 then (some (x3_3 ++ [28])) else (none)))) = some r := by rw [if_pos rfl] at H; exact H
          clear H
          have H := H1
          clear H1
          replace H := Option.bind_eq_some_iff.mp H
          obtain ⟨⟨t291, t292, t293⟩, A110, H⟩ := H
          replace H : (if t292 = true then (some x3_3) else (if x3_3.length < 17592186044416 then (some (x3_3 ++ [28])) else (none))) = some r := H
          have A11 := Aside0.mk A110
          clear A110
          by_cases c12 : t292 = true
          · subst c12
            have H1 : (some x3_3) = some r := by rw [if_pos rfl] at H; exact H
            clear H
            have H := H1
            clear H1
            obtain rfl := Option.some.inj H
            go_wp2_with (first | ((with_reducible refine gate_callee (f := 38) rfl ?_); refine goesL_ (some 29) rfl rfl Try.func38 (by kernel_rfl) rfl #[.string a0, .int .i64 10, .int .i64 4] rfl (by (try simp only [List.map_toArray, List.map_cons, List.map_nil]); first | done | rfl | (simp only [List.length_drop, List.length_take]; rfl)) ?_; (with_reducible refine (masterdiscref01_ReadBoth.calls kj3 a0 10 4 t288 true t290 _ A9.out).mono ?_); rintro e w13 ⟨rfl, hb⟩; refine ⟨_, rfl, ?_⟩; have n0_ := Aside0.mk (Kd.R_below (by (with_reducible repeat (first | apply Kd.R_alloc | apply Kd.R_drewN | apply Kd.R_drew)); exact HO_3.out) hb); have n1_ := Aside0.mk (below_step (by repeat (first | (with_reducible first | exact HB.out | apply below_alloc | apply pw_below_drewN | apply below_drew1) | exact HB.out)) hb); clear HO_3; clear HB; have HO_3 := n0_; have HB := n1_; clear n0_ n1_; (try clear hb); (try clear hb2); (try clear hk); (try clear hi)) | ((with_reducible refine gate_callee (f := 38) rfl ?_); refine goesL_ (some 40) rfl rfl Try.func38 (by kernel_rfl) rfl #[.string a0, .int .i64 28, .int .i64 2] rfl (by (try simp only [List.map_toArray, List.map_cons, List.map_nil]); first | done | rfl | (simp only [List.length_drop, List.length_take]; rfl)) ?_; (with_reducible refine (masterdiscref01_ReadBoth.calls kj3 a0 28 2 t291 true t293 _ A11.out).mono ?_); rintro e w14 ⟨rfl, hb⟩; refine ⟨_, rfl, ?_⟩; have n0_ := Aside0.mk (Kd.R_below (by (with_reducible repeat (first | apply Kd.R_alloc | apply Kd.R_drewN | apply Kd.R_drew)); exact HO_3.out) hb); have n1_ := Aside0.mk (below_step (by repeat (first | (with_reducible first | exact HB.out | apply below_alloc | apply pw_below_drewN | apply below_drew1) | exact HB.out)) hb); clear HO_3; clear HB; have HO_3 := n0_; have HB := n1_; clear n0_ n1_; (try clear hb); (try clear hb2); (try clear hk); (try clear hi)))
            go_ret
            exact ⟨_, by first | rfl | (simp [errW_none, errW_some] <;> rfl) | (simp [*, errW_none, errW_some] <;> rfl), by (with_reducible repeat (first | apply Kd.R_alloc | apply Kd.R_drewN | apply Kd.R_drew)); exact HO_3.out, by repeat (first | (with_reducible first | exact HB.out | apply below_alloc | apply pw_below_drewN | apply below_drew1) | exact HB.out)⟩
          · replace c12 := Bool.eq_false_iff.mpr c12
            subst c12
            have H1 : (if x3_3.length < 17592186044416 then (some (x3_3 ++ [28])) else (none)) = some r := by rw [if_neg (show ¬ (false = true) by decide)] at H; exact H
            clear H
            have H := H1
            clear H1
            by_cases c15 : x3_3.length < 17592186044416
            · rw [if_pos c15] at H
              have LMc15 := Aside0.mk c15
              clear c15
              obtain ⟨y294, hy294⟩ : ∃ y_ : List Int, y_ = (x3_3 ++ [28]) := ⟨_, rfl⟩
              replace H : (some y294) = some r := by first | (rw [hy294]; with_reducible exact H) | (have H2_ := (Option.bind_some _ _).symm.trans H; rw [hy294]; with_reducible exact H2_) | (have H2_ := (Option.bind_some _ _).symm.trans H; with_reducible exact H2_) | with_reducible exact H | (rw [hy294]; exact H) | exact H
              have Ny294 := Aside0.mk hy294
              clear hy294
              obtain rfl := Option.some.inj H
              go_wp2_with (first | ((with_reducible refine gate_callee (f := 38) rfl ?_); refine goesL_ (some 29) rfl rfl Try.func38 (by kernel_rfl) rfl #[.string a0, .int .i64 10, .int .i64 4] rfl (by (try simp only [List.map_toArray, List.map_cons, List.map_nil]); first | done | rfl | (simp only [List.length_drop, List.length_take]; rfl)) ?_; (with_reducible refine (masterdiscref01_ReadBoth.calls kj3 a0 10 4 t288 true t290 _ A9.out).mono ?_); rintro e w16 ⟨rfl, hb⟩; refine ⟨_, rfl, ?_⟩; have n0_ := Aside0.mk (Kd.R_below (by (with_reducible repeat (first | apply Kd.R_alloc | apply Kd.R_drewN | apply Kd.R_drew)); exact HO_3.out) hb); have n1_ := Aside0.mk (below_step (by repeat (first | (with_reducible first | exact HB.out | apply below_alloc | apply pw_below_drewN | apply below_drew1) | exact HB.out)) hb); clear HO_3; clear HB; have HO_3 := n0_; have HB := n1_; clear n0_ n1_; (try clear hb); (try clear hb2); (try clear hk); (try clear hi)) | ((with_reducible refine gate_callee (f := 38) rfl ?_); refine goesL_ (some 40) rfl rfl Try.func38 (by kernel_rfl) rfl #[.string a0, .int .i64 28, .int .i64 2] rfl (by (try simp only [List.map_toArray, List.map_cons, List.map_nil]); first | done | rfl | (simp only [List.length_drop, List.length_take]; rfl)) ?_; (with_reducible refine (masterdiscref01_ReadBoth.calls kj3 a0 28 2 t291 false t293 _ A11.out).mono ?_); rintro e w17 ⟨rfl, hb⟩; refine ⟨_, rfl, ?_⟩; have n0_ := Aside0.mk (Kd.R_below (by (with_reducible repeat (first | apply Kd.R_alloc | apply Kd.R_drewN | apply Kd.R_drew)); exact HO_3.out) hb); have n1_ := Aside0.mk (below_step (by repeat (first | (with_reducible first | exact HB.out | apply below_alloc | apply pw_below_drewN | apply below_drew1) | exact HB.out)) hb); clear HO_3; clear HB; have HO_3 := n0_; have HB := n1_; clear n0_ n1_; (try clear hb); (try clear hb2); (try clear hk); (try clear hi)) | ((with_reducible refine gate_builtin (b := .append) (xs := #[.tmp 46, .tmp 47]) rfl ?_); at_builtin; refine Kd.R_append (Kd.int .i64) (w0 := w) w.heap.size rfl (.tmp 46) (.tmp 47) 33 3 (.int .i64 0) 8 rfl Try.underlying33 info3 rfl (by decide) (by omega) u3 x3_3 28 [.int .i64 28] (fun _ => True) (fun _ => False) rfl rfl ?aP (fun _ hk => hk.elim) ?aF ?aO ?aB ?aS ?aL ?_; (case aP => exact rfl); (case aB => exact (by repeat (first | (with_reducible first | exact HB.out | apply below_alloc | apply pw_below_drewN | apply below_drew1) | exact HB.out))); (case aF => exact (fun _ _ => trivial)); (case aO => exact (by (with_reducible repeat (first | apply Kd.R_alloc | apply Kd.R_drewN | apply Kd.R_drew)); exact HO_3.out)); (case aS => exact (below_size (by repeat (first | (with_reducible first | exact HB.out | apply below_alloc | apply pw_below_drewN | apply below_drew1) | exact HB.out)))); (case aL => have := LMc15.out; omega); intro v295 w18 ho hb hg hat; rw [← Ny294.out] at ho; have n0_ := Aside0.mk (hb); have n1_ := Aside0.mk (ho); clear HB; clear HO_3; have HB := n0_; have HO296 := n1_; clear n0_ n1_; clear ho hb hg hat))
              go_ret
              exact ⟨_, by first | rfl | (simp [errW_none, errW_some] <;> rfl) | (simp [*, errW_none, errW_some] <;> rfl), by (with_reducible repeat (first | apply Kd.R_alloc | apply Kd.R_drewN | apply Kd.R_drew)); exact HO296.out, by repeat (first | (with_reducible first | exact HB.out | apply below_alloc | apply pw_below_drewN | apply below_drew1) | exact HB.out)⟩
            · rw [if_neg c15] at H
              exact absurd H (by simp)
        · replace c10 := Bool.eq_false_iff.mpr c10
          subst c10
          have H1 : (if x3_3.length < 17592186044416 then ((some (x3_3 ++ [10] : List Int)).bind fun y297 => ((masterdiscref01_ReadBoth.f kj3 a0 28 2).bind fun bt300 => (if bt300.2.1 = true then (some y297) else (if y297.length < 17592186044416 then (some (y297 ++ [28])) else (none))))) else (none)) = some r := by rw [if_neg (show ¬ (false = true) by decide)] at H; exact H
          clear H
          have H := H1
          clear H1
          by_cases c19 : x3_3.length < 17592186044416
          · rw [if_pos c19] at H
            have LMc19 := Aside0.mk c19
            clear c19
            obtain ⟨y297, hy297⟩ : ∃ y_ : List Int, y_ = (x3_3 ++ [10]) := ⟨_, rfl⟩
            replace H : ((masterdiscref01_ReadBoth.f kj3 a0 28 2).bind fun bt300 => (if bt300.2.1 = true then (some y297) else (if y297.length < 17592186044416 then (some (y297 ++ [28])) else (none)))) = some r := by first | (rw [hy297]; with_reducible exact H) | (have H2_ := (Option.bind_some _ _).symm.trans H; rw [hy297]; with_reducible exact H2_) | (have H2_ := (Option.bind_some _ _).symm.trans H; with_reducible exact H2_) | with_reducible exact H | (rw [hy297]; exact H) | exact H
            have Ny297 := Aside0.mk hy297
            clear hy297
            replace H := Option.bind_eq_some_iff.mp H
            obtain ⟨⟨t300, t301, t302⟩, A200, H⟩ := H
            replace H : (if t301 = true then (some y297) else (if y297.length < 17592186044416 then (some (y297 ++ [28])) else (none))) = some r := H
            have A20 := Aside0.mk A200
            clear A200
            by_cases c21 : t301 = true
            · subst c21
              have H1 : (some y297) = some r := by rw [if_pos rfl] at H; exact H
              clear H
              have H := H1
              clear H1
              obtain rfl := Option.some.inj H
              go_wp2_with (first | ((with_reducible refine gate_callee (f := 38) rfl ?_); refine goesL_ (some 29) rfl rfl Try.func38 (by kernel_rfl) rfl #[.string a0, .int .i64 10, .int .i64 4] rfl (by (try simp only [List.map_toArray, List.map_cons, List.map_nil]); first | done | rfl | (simp only [List.length_drop, List.length_take]; rfl)) ?_; (with_reducible refine (masterdiscref01_ReadBoth.calls kj3 a0 10 4 t288 false t290 _ A9.out).mono ?_); rintro e w22 ⟨rfl, hb⟩; refine ⟨_, rfl, ?_⟩; have n0_ := Aside0.mk (Kd.R_below (by (with_reducible repeat (first | apply Kd.R_alloc | apply Kd.R_drewN | apply Kd.R_drew)); exact HO_3.out) hb); have n1_ := Aside0.mk (below_step (by repeat (first | (with_reducible first | exact HB.out | apply below_alloc | apply pw_below_drewN | apply below_drew1) | exact HB.out)) hb); clear HO_3; clear HB; have HO_3 := n0_; have HB := n1_; clear n0_ n1_; (try clear hb); (try clear hb2); (try clear hk); (try clear hi)) | ((with_reducible refine gate_builtin (b := .append) (xs := #[.tmp 35, .tmp 36]) rfl ?_); at_builtin; refine Kd.R_append (Kd.int .i64) (w0 := w) w.heap.size rfl (.tmp 35) (.tmp 36) 33 3 (.int .i64 0) 8 rfl Try.underlying33 info3 rfl (by decide) (by omega) u3 x3_3 10 [.int .i64 10] (fun _ => True) (fun _ => False) rfl rfl ?aP (fun _ hk => hk.elim) ?aF ?aO ?aB ?aS ?aL ?_; (case aP => exact rfl); (case aB => exact (by repeat (first | (with_reducible first | exact HB.out | apply below_alloc | apply pw_below_drewN | apply below_drew1) | exact HB.out))); (case aF => exact (fun _ _ => trivial)); (case aO => exact (by (with_reducible repeat (first | apply Kd.R_alloc | apply Kd.R_drewN | apply Kd.R_drew)); exact HO_3.out)); (case aS => exact (below_size (by repeat (first | (with_reducible first | exact HB.out | apply below_alloc | apply pw_below_drewN | apply below_drew1) | exact HB.out)))); (case aL => have := LMc19.out; omega); intro v298 w23 ho hb hg hat; rw [← Ny297.out] at ho; have n0_ := Aside0.mk (hb); have n1_ := Aside0.mk (ho); clear HB; clear HO_3; have HB := n0_; have HO299 := n1_; clear n0_ n1_; clear ho hb hg hat) | ((with_reducible refine gate_callee (f := 38) rfl ?_); refine goesL_ (some 40) rfl rfl Try.func38 (by kernel_rfl) rfl #[.string a0, .int .i64 28, .int .i64 2] rfl (by (try simp only [List.map_toArray, List.map_cons, List.map_nil]); first | done | rfl | (simp only [List.length_drop, List.length_take]; rfl)) ?_; (with_reducible refine (masterdiscref01_ReadBoth.calls kj3 a0 28 2 t300 true t302 _ A20.out).mono ?_); rintro e w24 ⟨rfl, hb⟩; refine ⟨_, rfl, ?_⟩; have n0_ := Aside0.mk (Kd.R_below (by (with_reducible repeat (first | apply Kd.R_alloc | apply Kd.R_drewN | apply Kd.R_drew)); exact HO299.out) hb); have n1_ := Aside0.mk (below_step (by repeat (first | (with_reducible first | exact HB.out | apply below_alloc | apply pw_below_drewN | apply below_drew1) | exact HB.out)) hb); clear HO299; clear HB; have HO299 := n0_; have HB := n1_; clear n0_ n1_; (try clear hb); (try clear hb2); (try clear hk); (try clear hi)))
              go_ret
              exact ⟨_, by first | rfl | (simp [errW_none, errW_some] <;> rfl) | (simp [*, errW_none, errW_some] <;> rfl), by (with_reducible repeat (first | apply Kd.R_alloc | apply Kd.R_drewN | apply Kd.R_drew)); exact HO299.out, by repeat (first | (with_reducible first | exact HB.out | apply below_alloc | apply pw_below_drewN | apply below_drew1) | exact HB.out)⟩
            · replace c21 := Bool.eq_false_iff.mpr c21
              subst c21
              have H1 : (if y297.length < 17592186044416 then (some (y297 ++ [28])) else (none)) = some r := by rw [if_neg (show ¬ (false = true) by decide)] at H; exact H
              clear H
              have H := H1
              clear H1
              by_cases c25 : y297.length < 17592186044416
              · rw [if_pos c25] at H
                have LMc25 := Aside0.mk c25
                clear c25
                obtain ⟨y303, hy303⟩ : ∃ y_ : List Int, y_ = (y297 ++ [28]) := ⟨_, rfl⟩
                replace H : (some y303) = some r := by first | (rw [hy303]; with_reducible exact H) | (have H2_ := (Option.bind_some _ _).symm.trans H; rw [hy303]; with_reducible exact H2_) | (have H2_ := (Option.bind_some _ _).symm.trans H; with_reducible exact H2_) | with_reducible exact H | (rw [hy303]; exact H) | exact H
                have Ny303 := Aside0.mk hy303
                clear hy303
                obtain rfl := Option.some.inj H
                go_wp2_with (first | ((with_reducible refine gate_callee (f := 38) rfl ?_); refine goesL_ (some 29) rfl rfl Try.func38 (by kernel_rfl) rfl #[.string a0, .int .i64 10, .int .i64 4] rfl (by (try simp only [List.map_toArray, List.map_cons, List.map_nil]); first | done | rfl | (simp only [List.length_drop, List.length_take]; rfl)) ?_; (with_reducible refine (masterdiscref01_ReadBoth.calls kj3 a0 10 4 t288 false t290 _ A9.out).mono ?_); rintro e w26 ⟨rfl, hb⟩; refine ⟨_, rfl, ?_⟩; have n0_ := Aside0.mk (Kd.R_below (by (with_reducible repeat (first | apply Kd.R_alloc | apply Kd.R_drewN | apply Kd.R_drew)); exact HO_3.out) hb); have n1_ := Aside0.mk (below_step (by repeat (first | (with_reducible first | exact HB.out | apply below_alloc | apply pw_below_drewN | apply below_drew1) | exact HB.out)) hb); clear HO_3; clear HB; have HO_3 := n0_; have HB := n1_; clear n0_ n1_; (try clear hb); (try clear hb2); (try clear hk); (try clear hi)) | ((with_reducible refine gate_builtin (b := .append) (xs := #[.tmp 35, .tmp 36]) rfl ?_); at_builtin; refine Kd.R_append (Kd.int .i64) (w0 := w) w.heap.size rfl (.tmp 35) (.tmp 36) 33 3 (.int .i64 0) 8 rfl Try.underlying33 info3 rfl (by decide) (by omega) u3 x3_3 10 [.int .i64 10] (fun _ => True) (fun _ => False) rfl rfl ?aP (fun _ hk => hk.elim) ?aF ?aO ?aB ?aS ?aL ?_; (case aP => exact rfl); (case aB => exact (by repeat (first | (with_reducible first | exact HB.out | apply below_alloc | apply pw_below_drewN | apply below_drew1) | exact HB.out))); (case aF => exact (fun _ _ => trivial)); (case aO => exact (by (with_reducible repeat (first | apply Kd.R_alloc | apply Kd.R_drewN | apply Kd.R_drew)); exact HO_3.out)); (case aS => exact (below_size (by repeat (first | (with_reducible first | exact HB.out | apply below_alloc | apply pw_below_drewN | apply below_drew1) | exact HB.out)))); (case aL => have := LMc19.out; omega); intro v298 w27 ho hb hg hat; rw [← Ny297.out] at ho; have n0_ := Aside0.mk (hb); have n1_ := Aside0.mk (ho); clear HB; clear HO_3; have HB := n0_; have HO299 := n1_; clear n0_ n1_; clear ho hb hg hat) | ((with_reducible refine gate_callee (f := 38) rfl ?_); refine goesL_ (some 40) rfl rfl Try.func38 (by kernel_rfl) rfl #[.string a0, .int .i64 28, .int .i64 2] rfl (by (try simp only [List.map_toArray, List.map_cons, List.map_nil]); first | done | rfl | (simp only [List.length_drop, List.length_take]; rfl)) ?_; (with_reducible refine (masterdiscref01_ReadBoth.calls kj3 a0 28 2 t300 false t302 _ A20.out).mono ?_); rintro e w28 ⟨rfl, hb⟩; refine ⟨_, rfl, ?_⟩; have n0_ := Aside0.mk (Kd.R_below (by (with_reducible repeat (first | apply Kd.R_alloc | apply Kd.R_drewN | apply Kd.R_drew)); exact HO299.out) hb); have n1_ := Aside0.mk (below_step (by repeat (first | (with_reducible first | exact HB.out | apply below_alloc | apply pw_below_drewN | apply below_drew1) | exact HB.out)) hb); clear HO299; clear HB; have HO299 := n0_; have HB := n1_; clear n0_ n1_; (try clear hb); (try clear hb2); (try clear hk); (try clear hi)) | ((with_reducible refine gate_builtin (b := .append) (xs := #[.tmp 46, .tmp 47]) rfl ?_); at_builtin; refine Kd.R_append (Kd.int .i64) (w0 := w) w.heap.size rfl (.tmp 46) (.tmp 47) 33 3 (.int .i64 0) 8 rfl Try.underlying33 info3 rfl (by decide) (by omega) v298 y297 28 [.int .i64 28] (fun _ => True) (fun _ => False) rfl rfl ?aP (fun _ hk => hk.elim) ?aF ?aO ?aB ?aS ?aL ?_; (case aP => exact rfl); (case aB => exact (by repeat (first | (with_reducible first | exact HB.out | apply below_alloc | apply pw_below_drewN | apply below_drew1) | exact HB.out))); (case aF => exact (fun _ _ => trivial)); (case aO => exact (by (with_reducible repeat (first | apply Kd.R_alloc | apply Kd.R_drewN | apply Kd.R_drew)); exact HO299.out)); (case aS => exact (below_size (by repeat (first | (with_reducible first | exact HB.out | apply below_alloc | apply pw_below_drewN | apply below_drew1) | exact HB.out)))); (case aL => have := LMc25.out; omega); intro v304 w29 ho hb hg hat; rw [← Ny303.out] at ho; have n0_ := Aside0.mk (hb); have n1_ := Aside0.mk (ho); clear HB; clear HO299; have HB := n0_; have HO305 := n1_; clear n0_ n1_; clear ho hb hg hat))
                go_ret
                exact ⟨_, by first | rfl | (simp [errW_none, errW_some] <;> rfl) | (simp [*, errW_none, errW_some] <;> rfl), by (with_reducible repeat (first | apply Kd.R_alloc | apply Kd.R_drewN | apply Kd.R_drew)); exact HO305.out, by repeat (first | (with_reducible first | exact HB.out | apply below_alloc | apply pw_below_drewN | apply below_drew1) | exact HB.out)⟩
              · rw [if_neg c25] at H
                exact absurd H (by simp)
          · rw [if_neg c19] at H
            exact absurd H (by simp)

/-! ### masterdisclaw20_DirrecordDecodes: function 4 -/
def masterdisclaw20_DirrecordDecodes.f (k : Nat) (a0 : ByteArray) : Option (Bool) := (masterdisclaw20_awake.f).bind fun t306 => (if t306 = true then (if (a0.size : Int) > 400 then (some true) else ((dirrecord_Decode.f k a0).bind fun bt307 => ((masterdiscref20_Decode.f k a0).bind fun bt318 => (if (bt307.1.toList == bt318.1.toList && (bt307.2.1 == bt318.2.1 && (bt307.2.2.1 == bt318.2.2.1 && (bt307.2.2.2.1 == bt318.2.2.2.1 && (bt307.2.2.2.2.1 == bt318.2.2.2.2.1 && (bt307.2.2.2.2.2.1 == bt318.2.2.2.2.2.1 && (bt307.2.2.2.2.2.2.1 == bt318.2.2.2.2.2.2.1 && (bt307.2.2.2.2.2.2.2.1.toList == bt318.2.2.2.2.2.2.2.1.toList)))))))) = true then (if bt307.2.2.2.2.2.2.2.2.1 = bt318.2.2.2.2.2.2.2.2.1 then (if bt307.2.2.2.2.2.2.2.2.2 = bt318.2.2.2.2.2.2.2.2.2 then ((dirrecord_Differ.f k a0).bind fun t329 => ((masterdiscref20_Differ.f k a0).bind fun t332 => ((slices_Equal_int_int.f k t329 t332).bind fun t335 => (some t335)))) else (some false)) else (some false)) else (some false))))) else (some false))
set_option maxHeartbeats 8000000 in
set_option maxRecDepth 100000 in
theorem masterdisclaw20_DirrecordDecodes.calls (k : Nat) (a0 : ByteArray) (r : Bool) (w : World) (h : masterdisclaw20_DirrecordDecodes.f k a0 = some r) :
    Calls Try.prog 4 #[.string a0] w fun e w' => e = .returned (.bool r) ∧ Below w.heap.size w w' := by
  have hu23 := Try.underlying23
  have HB := Aside0.mk (Below.refl w.heap.size w)
  have H : ((masterdisclaw20_awake.f).bind fun t306 => (if t306 = true then (if (a0.size : Int) > 400 then (some true) else ((dirrecord_Decode.f k a0).bind fun bt307 => ((masterdiscref20_Decode.f k a0).bind fun bt318 => (if (bt307.1.toList == bt318.1.toList && (bt307.2.1 == bt318.2.1 && (bt307.2.2.1 == bt318.2.2.1 && (bt307.2.2.2.1 == bt318.2.2.2.1 && (bt307.2.2.2.2.1 == bt318.2.2.2.2.1 && (bt307.2.2.2.2.2.1 == bt318.2.2.2.2.2.1 && (bt307.2.2.2.2.2.2.1 == bt318.2.2.2.2.2.2.1 && (bt307.2.2.2.2.2.2.2.1.toList == bt318.2.2.2.2.2.2.2.1.toList)))))))) = true then (if bt307.2.2.2.2.2.2.2.2.1 = bt318.2.2.2.2.2.2.2.2.1 then (if bt307.2.2.2.2.2.2.2.2.2 = bt318.2.2.2.2.2.2.2.2.2 then ((dirrecord_Differ.f k a0).bind fun t329 => ((masterdiscref20_Differ.f k a0).bind fun t332 => ((slices_Equal_int_int.f k t329 t332).bind fun t335 => (some t335)))) else (some false)) else (some false)) else (some false))))) else (some false))) = some r := h
  clear h
  replace H := Option.bind_eq_some_iff.mp H
  obtain ⟨t306, A20, H⟩ := H
  replace H : (if t306 = true then (if (a0.size : Int) > 400 then (some true) else ((dirrecord_Decode.f k a0).bind fun bt307 => ((masterdiscref20_Decode.f k a0).bind fun bt318 => (if (bt307.1.toList == bt318.1.toList && (bt307.2.1 == bt318.2.1 && (bt307.2.2.1 == bt318.2.2.1 && (bt307.2.2.2.1 == bt318.2.2.2.1 && (bt307.2.2.2.2.1 == bt318.2.2.2.2.1 && (bt307.2.2.2.2.2.1 == bt318.2.2.2.2.2.1 && (bt307.2.2.2.2.2.2.1 == bt318.2.2.2.2.2.2.1 && (bt307.2.2.2.2.2.2.2.1.toList == bt318.2.2.2.2.2.2.2.1.toList)))))))) = true then (if bt307.2.2.2.2.2.2.2.2.1 = bt318.2.2.2.2.2.2.2.2.1 then (if bt307.2.2.2.2.2.2.2.2.2 = bt318.2.2.2.2.2.2.2.2.2 then ((dirrecord_Differ.f k a0).bind fun t329 => ((masterdiscref20_Differ.f k a0).bind fun t332 => ((slices_Equal_int_int.f k t329 t332).bind fun t335 => (some t335)))) else (some false)) else (some false)) else (some false))))) else (some false)) = some r := H
  have A2 := Aside0.mk A20
  clear A20
  by_cases c3 : t306 = true
  · subst c3
    have H1 : (if (a0.size : Int) > 400 then (some true) else ((dirrecord_Decode.f k a0).bind fun bt307 => ((masterdiscref20_Decode.f k a0).bind fun bt318 => (if (bt307.1.toList == bt318.1.toList && (bt307.2.1 == bt318.2.1 && (bt307.2.2.1 == bt318.2.2.1 && (bt307.2.2.2.1 == bt318.2.2.2.1 && (bt307.2.2.2.2.1 == bt318.2.2.2.2.1 && (bt307.2.2.2.2.2.1 == bt318.2.2.2.2.2.1 && (bt307.2.2.2.2.2.2.1 == bt318.2.2.2.2.2.2.1 && (bt307.2.2.2.2.2.2.2.1.toList == bt318.2.2.2.2.2.2.2.1.toList)))))))) = true then (if bt307.2.2.2.2.2.2.2.2.1 = bt318.2.2.2.2.2.2.2.2.1 then (if bt307.2.2.2.2.2.2.2.2.2 = bt318.2.2.2.2.2.2.2.2.2 then ((dirrecord_Differ.f k a0).bind fun t329 => ((masterdiscref20_Differ.f k a0).bind fun t332 => ((slices_Equal_int_int.f k t329 t332).bind fun t335 => (some t335)))) else (some false)) else (some false)) else (some false))))) = some r := by rw [if_pos rfl] at H; exact H
    clear H
    have H := H1
    clear H1
    by_cases c4 : (a0.size : Int) > 400
    · rw [if_pos c4] at H
      have c4b0 : decide (400 < (a0.size : Int)) = true := decide_eq_true c4
      have c4b1 : decide (400 < a0.size) = true := decide_eq_true (by omega)
      clear c4
      obtain rfl := Option.some.inj H
      go_enter Try.func4, Try.ntmps4
      go_wp2_with (first | ((with_reducible refine gate_callee (f := 10) rfl ?_); refine goesL_ (some 9) rfl rfl Try.func10 (by kernel_rfl) rfl #[] rfl (by (try simp only [List.map_toArray, List.map_cons, List.map_nil]); first | done | rfl | (simp only [List.length_drop, List.length_take]; rfl)) ?_; (with_reducible refine (masterdisclaw20_awake.calls  true _ A2.out).mono ?_); rintro e w5 ⟨rfl, hb⟩; refine ⟨_, rfl, ?_⟩; have n0_ := Aside0.mk (below_step (by repeat (first | (with_reducible first | exact HB.out | apply below_alloc | apply pw_below_drewN | apply below_drew1) | exact HB.out)) hb); clear HB; have HB := n0_; clear n0_; (try clear hb); (try clear hb2); (try clear hk); (try clear hi)))
      go_ret
      exact ⟨by first | rfl | (simp [errW_none, errW_some] <;> rfl) | (simp [*, errW_none, errW_some] <;> rfl), by repeat (first | (with_reducible first | exact HB.out | apply below_alloc | apply pw_below_drewN | apply below_drew1) | exact HB.out)⟩
    · rw [if_neg c4] at H
      have c4b0 : decide (400 < (a0.size : Int)) = false := decide_eq_false c4
      have c4b1 : decide (400 < a0.size) = false := decide_eq_false (by omega)
      clear c4
      replace H := Option.bind_eq_some_iff.mp H
      obtain ⟨⟨t307, t308, t309, t310, t311, t312, t313, t314, t315, t316⟩, A60, H⟩ := H
      replace H : ((masterdiscref20_Decode.f k a0).bind fun bt318 => (if (t307.toList == bt318.1.toList && (t308 == bt318.2.1 && (t309 == bt318.2.2.1 && (t310 == bt318.2.2.2.1 && (t311 == bt318.2.2.2.2.1 && (t312 == bt318.2.2.2.2.2.1 && (t313 == bt318.2.2.2.2.2.2.1 && (t314.toList == bt318.2.2.2.2.2.2.2.1.toList)))))))) = true then (if t315 = bt318.2.2.2.2.2.2.2.2.1 then (if t316 = bt318.2.2.2.2.2.2.2.2.2 then ((dirrecord_Differ.f k a0).bind fun t329 => ((masterdiscref20_Differ.f k a0).bind fun t332 => ((slices_Equal_int_int.f k t329 t332).bind fun t335 => (some t335)))) else (some false)) else (some false)) else (some false))) = some r := H
      have A6 := Aside0.mk A60
      clear A60
      replace H := Option.bind_eq_some_iff.mp H
      obtain ⟨⟨t318, t319, t320, t321, t322, t323, t324, t325, t326, t327⟩, A70, H⟩ := H
      replace H : (if (t307.toList == t318.toList && (t308 == t319 && (t309 == t320 && (t310 == t321 && (t311 == t322 && (t312 == t323 && (t313 == t324 && (t314.toList == t325.toList)))))))) = true then (if t315 = t326 then (if t316 = t327 then ((dirrecord_Differ.f k a0).bind fun t329 => ((masterdiscref20_Differ.f k a0).bind fun t332 => ((slices_Equal_int_int.f k t329 t332).bind fun t335 => (some t335)))) else (some false)) else (some false)) else (some false)) = some r := H
      have A7 := Aside0.mk A70
      clear A70
      by_cases c8 : (t307.toList == t318.toList && (t308 == t319 && (t309 == t320 && (t310 == t321 && (t311 == t322 && (t312 == t323 && (t313 == t324 && (t314.toList == t325.toList)))))))) = true
      · rw [if_pos c8] at H
        have c8b0 : (t307.toList == t318.toList && (t308 == t319 && (t309 == t320 && (t310 == t321 && (t311 == t322 && (t312 == t323 && (t313 == t324 && (t314.toList == t325.toList)))))))) = true := c8
        (try (have c8b1 : decide (t307.toList = t318.toList && (t308 == t319 && (t309 == t320 && (t310 == t321 && (t311 == t322 && (t312 == t323 && (t313 == t324 && (t314.toList == t325.toList)))))))) = true := by simpa using c8))
        (try (have c8b2 : (t307.toList == t318.toList && (t308 == t319 && (t309 == t320 && (t310 == t321 && (t311 == t322 && (t312 == t323 && (t313 == t324 && (t314.toList == t325.toList)))))))) = true := by simpa using c8))
        clear c8
        by_cases c9 : t315 = t326
        · rw [if_pos c9] at H
          have c9b0 : (t315 == t326) = true := beq_iff_eq.mpr c9
          have c9b1 : (t315 != t326) = false := bne_eq_false_iff_eq.mpr c9
          clear c9
          by_cases c10 : t316 = t327
          · rw [if_pos c10] at H
            have c10b0 : (t316 == t327) = true := beq_iff_eq.mpr c10
            have c10b1 : (t316 != t327) = false := bne_eq_false_iff_eq.mpr c10
            clear c10
            replace H := Option.bind_eq_some_iff.mp H
            obtain ⟨t329, A110, H⟩ := H
            replace H : ((masterdiscref20_Differ.f k a0).bind fun t332 => ((slices_Equal_int_int.f k t329 t332).bind fun t335 => (some t335))) = some r := H
            have A11 := Aside0.mk A110
            clear A110
            replace H := Option.bind_eq_some_iff.mp H
            obtain ⟨t332, A120, H⟩ := H
            replace H : ((slices_Equal_int_int.f k t329 t332).bind fun t335 => (some t335)) = some r := H
            have A12 := Aside0.mk A120
            clear A120
            replace H := Option.bind_eq_some_iff.mp H
            obtain ⟨t335, A130, H⟩ := H
            replace H : (some t335) = some r := H
            have A13 := Aside0.mk A130
            clear A130
            obtain rfl := Option.some.inj H
            go_enter Try.func4, Try.ntmps4
            go_wp2_with (first | ((with_reducible refine gate_callee (f := 10) rfl ?_); refine goesL_ (some 9) rfl rfl Try.func10 (by kernel_rfl) rfl #[] rfl (by (try simp only [List.map_toArray, List.map_cons, List.map_nil]); first | done | rfl | (simp only [List.length_drop, List.length_take]; rfl)) ?_; (with_reducible refine (masterdisclaw20_awake.calls  true _ A2.out).mono ?_); rintro e w14 ⟨rfl, hb⟩; refine ⟨_, rfl, ?_⟩; have n0_ := Aside0.mk (below_step (by repeat (first | (with_reducible first | exact HB.out | apply below_alloc | apply pw_below_drewN | apply below_drew1) | exact HB.out)) hb); clear HB; have HB := n0_; clear n0_; (try clear hb); (try clear hb2); (try clear hk); (try clear hi)) | ((with_reducible refine gate_callee (f := 15) rfl ?_); refine goesL_ (some 16) rfl rfl Try.func15 (by kernel_rfl) rfl #[.string a0] rfl (by (try simp only [List.map_toArray, List.map_cons, List.map_nil]); first | done | rfl | (simp only [List.length_drop, List.length_take]; rfl)) ?_; (with_reducible refine (dirrecord_Decode.calls k a0 t307 t308 t309 t310 t311 t312 t313 t314 t315 t316 _ A6.out).mono ?_); rintro e w15 ⟨rfl, hb⟩; refine ⟨_, rfl, ?_⟩; have n0_ := Aside0.mk (below_step (by repeat (first | (with_reducible first | exact HB.out | apply below_alloc | apply pw_below_drewN | apply below_drew1) | exact HB.out)) hb); clear HB; have HB := n0_; clear n0_; (try clear hb); (try clear hb2); (try clear hk); (try clear hi)) | ((with_reducible refine gate_dst (N := 3) rfl ?_); refine box_event ?hg (N := 3) ?hd (cs := #[.string (⟨#[]⟩ : ByteArray), .int .i64 0, .int .i64 0, .int .i64 0, .int .i64 0, .int .i64 0, .int .i64 0, .string (⟨#[]⟩ : ByteArray)]) (t := 23) ?hr ?_; (case hd => rfl); (case hg => rfl); (case hr => first | (go_simp; done) | (go_simp; rfl)); intro gb317 hg w16 hbox hb; have n0_ := Aside0.mk (below_step (by repeat (first | (with_reducible first | exact HB.out | apply below_alloc | apply pw_below_drewN | apply below_drew1) | exact HB.out)) hb); have n1_ := Aside0.mk (hbox); have n2_ := Aside0.mk ((by rw [hg]; exact (below_size (by repeat (first | (with_reducible first | exact HB.out | apply below_alloc | apply pw_below_drewN | apply below_drew1) | exact HB.out))) : w.heap.size ≤ gb317)); have n3_ := Aside0.mk ((by rw [hg]; exact (below_size (by repeat (first | (with_reducible first | exact HB.out | apply below_alloc | apply pw_below_drewN | apply below_drew1) | exact HB.out))) : w.heap.size ≤ gb317)); clear HB; have HB := n0_; have BK317 := n1_; have GW317 := n2_; have GE317 := n3_; clear n0_ n1_ n2_ n3_; clear hb hbox hg; have hcz17_0 : w16.cell? ⟨gb317, 0, none⟩ = some (.string (⟨#[]⟩ : ByteArray)) := (blk_cell BK317.out 0).trans rfl; have hcz17_1 : w16.cell? ⟨gb317, 1, none⟩ = some (.int .i64 0) := (blk_cell BK317.out 1).trans rfl; have hcz17_2 : w16.cell? ⟨gb317, 2, none⟩ = some (.int .i64 0) := (blk_cell BK317.out 2).trans rfl; have hcz17_3 : w16.cell? ⟨gb317, 3, none⟩ = some (.int .i64 0) := (blk_cell BK317.out 3).trans rfl; have hcz17_4 : w16.cell? ⟨gb317, 4, none⟩ = some (.int .i64 0) := (blk_cell BK317.out 4).trans rfl; have hcz17_5 : w16.cell? ⟨gb317, 5, none⟩ = some (.int .i64 0) := (blk_cell BK317.out 5).trans rfl; have hcz17_6 : w16.cell? ⟨gb317, 6, none⟩ = some (.int .i64 0) := (blk_cell BK317.out 6).trans rfl; have hcz17_7 : w16.cell? ⟨gb317, 7, none⟩ = some (.string (⟨#[]⟩ : ByteArray)) := (blk_cell BK317.out 7).trans rfl; have hfz17_0 := blk_frozen BK317.out 0; have hfz17_1 := blk_frozen BK317.out 1; have hfz17_2 := blk_frozen BK317.out 2; have hfz17_3 := blk_frozen BK317.out 3; have hfz17_4 := blk_frozen BK317.out 4; have hfz17_5 := blk_frozen BK317.out 5; have hfz17_6 := blk_frozen BK317.out 6; have hfz17_7 := blk_frozen BK317.out 7) | ((with_reducible refine gate_callee (f := 16) rfl ?_); refine goesL_ (some 22) rfl rfl Try.func16 (by kernel_rfl) rfl #[.string a0] rfl (by (try simp only [List.map_toArray, List.map_cons, List.map_nil]); first | done | rfl | (simp only [List.length_drop, List.length_take]; rfl)) ?_; (with_reducible refine (masterdiscref20_Decode.calls k a0 t318 t319 t320 t321 t322 t323 t324 t325 t326 t327 _ A7.out).mono ?_); rintro e w18 ⟨rfl, hb⟩; refine ⟨_, rfl, ?_⟩; have n0_ := Aside0.mk (blk_below (g := gb317) (o := .cells #[.string t307, .int .i64 t308, .int .i64 t309, .int .i64 t310, .int .i64 t311, .int .i64 t312, .int .i64 t313, .string t314] 23 (0, 0)) (by (with_reducible repeat (first | refine blk_drewN ?_ _ | refine blk_drew ?_ | refine blk_alloc ?_ _)); refine blk_put (cs := #[.string t307, .int .i64 t308, .int .i64 t309, .int .i64 t310, .int .i64 t311, .int .i64 t312, .int .i64 t313, .string (⟨#[]⟩ : ByteArray)]) ?_ 7 _ rfl; (with_reducible repeat (first | refine blk_drewN ?_ _ | refine blk_drew ?_ | refine blk_alloc ?_ _)); refine blk_put (cs := #[.string t307, .int .i64 t308, .int .i64 t309, .int .i64 t310, .int .i64 t311, .int .i64 t312, .int .i64 0, .string (⟨#[]⟩ : ByteArray)]) ?_ 6 _ rfl; (with_reducible repeat (first | refine blk_drewN ?_ _ | refine blk_drew ?_ | refine blk_alloc ?_ _)); refine blk_put (cs := #[.string t307, .int .i64 t308, .int .i64 t309, .int .i64 t310, .int .i64 t311, .int .i64 0, .int .i64 0, .string (⟨#[]⟩ : ByteArray)]) ?_ 5 _ rfl; (with_reducible repeat (first | refine blk_drewN ?_ _ | refine blk_drew ?_ | refine blk_alloc ?_ _)); refine blk_put (cs := #[.string t307, .int .i64 t308, .int .i64 t309, .int .i64 t310, .int .i64 0, .int .i64 0, .int .i64 0, .string (⟨#[]⟩ : ByteArray)]) ?_ 4 _ rfl; (with_reducible repeat (first | refine blk_drewN ?_ _ | refine blk_drew ?_ | refine blk_alloc ?_ _)); refine blk_put (cs := #[.string t307, .int .i64 t308, .int .i64 t309, .int .i64 0, .int .i64 0, .int .i64 0, .int .i64 0, .string (⟨#[]⟩ : ByteArray)]) ?_ 3 _ rfl; (with_reducible repeat (first | refine blk_drewN ?_ _ | refine blk_drew ?_ | refine blk_alloc ?_ _)); refine blk_put (cs := #[.string t307, .int .i64 t308, .int .i64 0, .int .i64 0, .int .i64 0, .int .i64 0, .int .i64 0, .string (⟨#[]⟩ : ByteArray)]) ?_ 2 _ rfl; (with_reducible repeat (first | refine blk_drewN ?_ _ | refine blk_drew ?_ | refine blk_alloc ?_ _)); refine blk_put (cs := #[.string t307, .int .i64 0, .int .i64 0, .int .i64 0, .int .i64 0, .int .i64 0, .int .i64 0, .string (⟨#[]⟩ : ByteArray)]) ?_ 1 _ rfl; (with_reducible repeat (first | refine blk_drewN ?_ _ | refine blk_drew ?_ | refine blk_alloc ?_ _)); refine blk_put (cs := #[.string (⟨#[]⟩ : ByteArray), .int .i64 0, .int .i64 0, .int .i64 0, .int .i64 0, .int .i64 0, .int .i64 0, .string (⟨#[]⟩ : ByteArray)]) ?_ 0 _ rfl; (with_reducible repeat (first | refine blk_drewN ?_ _ | refine blk_drew ?_ | refine blk_alloc ?_ _)); exact BK317.out) hb); have n1_ := Aside0.mk (below_step (by repeat (first | (with_reducible first | exact HB.out | apply below_alloc | apply pw_below_drewN | apply below_drew1 | refine below_set ?_ GE317.out) | exact HB.out)) hb); clear BK317; clear HB; have BK317 := n0_; have HB := n1_; clear n0_ n1_; (try clear hb); (try clear hb2); (try clear hk); (try clear hi)) | ((with_reducible refine gate_dst (N := 6) rfl ?_); refine box_event ?hg (N := 6) ?hd (cs := #[.string (⟨#[]⟩ : ByteArray), .int .i64 0, .int .i64 0, .int .i64 0, .int .i64 0, .int .i64 0, .int .i64 0, .string (⟨#[]⟩ : ByteArray)]) (t := 23) ?hr ?_; (case hd => rfl); (case hg => rfl); (case hr => first | (go_simp; done) | (go_simp; rfl)); intro gb328 hg w19 hbox hb; have n0_ := Aside0.mk (blk_below (g := gb317) (o := .cells #[.string t307, .int .i64 t308, .int .i64 t309, .int .i64 t310, .int .i64 t311, .int .i64 t312, .int .i64 t313, .string t314] 23 (0, 0)) (by (with_reducible repeat (first | refine blk_drewN ?_ _ | refine blk_drew ?_ | refine blk_alloc ?_ _)); exact BK317.out) hb); have n1_ := Aside0.mk (below_step (by repeat (first | (with_reducible first | exact HB.out | apply below_alloc | apply pw_below_drewN | apply below_drew1 | refine below_set ?_ GE317.out) | exact HB.out)) hb); have n2_ := Aside0.mk (hbox); have n3_ := Aside0.mk ((by rw [hg]; exact (below_size (by repeat (first | (with_reducible first | exact HB.out | apply below_alloc | apply pw_below_drewN | apply below_drew1 | refine below_set ?_ GE317.out) | exact HB.out))) : w.heap.size ≤ gb328)); have n4_ := Aside0.mk ((by rw [hg]; exact (below_size (by repeat (first | (with_reducible first | exact HB.out | apply below_alloc | apply pw_below_drewN | apply below_drew1 | refine below_set ?_ GE317.out) | exact HB.out))) : w.heap.size ≤ gb328)); have n5_ := Aside0.mk ((by rw [hg]; exact Nat.ne_of_lt (blk_lt (g := gb317) (o := .cells #[.string t307, .int .i64 t308, .int .i64 t309, .int .i64 t310, .int .i64 t311, .int .i64 t312, .int .i64 t313, .string t314] 23 (0, 0)) (by (with_reducible repeat (first | refine blk_drewN ?_ _ | refine blk_drew ?_ | refine blk_alloc ?_ _)); exact BK317.out)) : gb317 ≠ gb328)); have n6_ := Aside0.mk ((by rw [hg]; exact Nat.ne_of_gt (blk_lt (g := gb317) (o := .cells #[.string t307, .int .i64 t308, .int .i64 t309, .int .i64 t310, .int .i64 t311, .int .i64 t312, .int .i64 t313, .string t314] 23 (0, 0)) (by (with_reducible repeat (first | refine blk_drewN ?_ _ | refine blk_drew ?_ | refine blk_alloc ?_ _)); exact BK317.out)) : gb328 ≠ gb317)); clear BK317; clear HB; have BK317 := n0_; have HB := n1_; have BK328 := n2_; have GW328 := n3_; have GE328 := n4_; have NB317_328 := n5_; have NB328_317 := n6_; clear n0_ n1_ n2_ n3_ n4_ n5_ n6_; clear hb hbox hg; have hnb20 := NB328_317.out; have hnc20 := NB317_328.out; have hcz21_0 : w19.cell? ⟨gb328, 0, none⟩ = some (.string (⟨#[]⟩ : ByteArray)) := (blk_cell BK328.out 0).trans rfl; have hcz21_1 : w19.cell? ⟨gb328, 1, none⟩ = some (.int .i64 0) := (blk_cell BK328.out 1).trans rfl; have hcz21_2 : w19.cell? ⟨gb328, 2, none⟩ = some (.int .i64 0) := (blk_cell BK328.out 2).trans rfl; have hcz21_3 : w19.cell? ⟨gb328, 3, none⟩ = some (.int .i64 0) := (blk_cell BK328.out 3).trans rfl; have hcz21_4 : w19.cell? ⟨gb328, 4, none⟩ = some (.int .i64 0) := (blk_cell BK328.out 4).trans rfl; have hcz21_5 : w19.cell? ⟨gb328, 5, none⟩ = some (.int .i64 0) := (blk_cell BK328.out 5).trans rfl; have hcz21_6 : w19.cell? ⟨gb328, 6, none⟩ = some (.int .i64 0) := (blk_cell BK328.out 6).trans rfl; have hcz21_7 : w19.cell? ⟨gb328, 7, none⟩ = some (.string (⟨#[]⟩ : ByteArray)) := (blk_cell BK328.out 7).trans rfl; have hfz21_0 := blk_frozen BK328.out 0; have hfz21_1 := blk_frozen BK328.out 1; have hfz21_2 := blk_frozen BK328.out 2; have hfz21_3 := blk_frozen BK328.out 3; have hfz21_4 := blk_frozen BK328.out 4; have hfz21_5 := blk_frozen BK328.out 5; have hfz21_6 := blk_frozen BK328.out 6; have hfz21_7 := blk_frozen BK328.out 7; have hcz22_0 : w19.cell? ⟨gb317, 0, none⟩ = some (.string t307) := (blk_cell BK317.out 0).trans rfl; have hcz22_1 : w19.cell? ⟨gb317, 1, none⟩ = some (.int .i64 t308) := (blk_cell BK317.out 1).trans rfl; have hcz22_2 : w19.cell? ⟨gb317, 2, none⟩ = some (.int .i64 t309) := (blk_cell BK317.out 2).trans rfl; have hcz22_3 : w19.cell? ⟨gb317, 3, none⟩ = some (.int .i64 t310) := (blk_cell BK317.out 3).trans rfl; have hcz22_4 : w19.cell? ⟨gb317, 4, none⟩ = some (.int .i64 t311) := (blk_cell BK317.out 4).trans rfl; have hcz22_5 : w19.cell? ⟨gb317, 5, none⟩ = some (.int .i64 t312) := (blk_cell BK317.out 5).trans rfl; have hcz22_6 : w19.cell? ⟨gb317, 6, none⟩ = some (.int .i64 t313) := (blk_cell BK317.out 6).trans rfl; have hcz22_7 : w19.cell? ⟨gb317, 7, none⟩ = some (.string t314) := (blk_cell BK317.out 7).trans rfl; have hfz22_0 := blk_frozen BK317.out 0; have hfz22_1 := blk_frozen BK317.out 1; have hfz22_2 := blk_frozen BK317.out 2; have hfz22_3 := blk_frozen BK317.out 3; have hfz22_4 := blk_frozen BK317.out 4; have hfz22_5 := blk_frozen BK317.out 5; have hfz22_6 := blk_frozen BK317.out 6; have hfz22_7 := blk_frozen BK317.out 7) | (go_at_call 18; (with_reducible refine (dirrecord_Differ.calls k a0 t329 _ A11.out).mono ?_); rintro e w23 ⟨v330, rfl, ho0, hb⟩; have n0_ := Aside0.mk (Kd.R_lower ho0 (below_size (by repeat (first | (with_reducible first | exact HB.out | apply below_alloc | apply pw_below_drewN | apply below_drew1 | refine below_set ?_ GE317.out | refine below_set ?_ GE328.out) | exact HB.out)))); have n1_ := Aside0.mk (blk_below (g := gb317) (o := .cells #[.string t307, .int .i64 t308, .int .i64 t309, .int .i64 t310, .int .i64 t311, .int .i64 t312, .int .i64 t313, .string t314] 23 (0, 0)) (by (with_reducible repeat (first | refine blk_drewN ?_ _ | refine blk_drew ?_ | refine blk_alloc ?_ _)); refine blk_far ?_ NB317_328.out _; (with_reducible repeat (first | refine blk_drewN ?_ _ | refine blk_drew ?_ | refine blk_alloc ?_ _)); refine blk_far ?_ NB317_328.out _; (with_reducible repeat (first | refine blk_drewN ?_ _ | refine blk_drew ?_ | refine blk_alloc ?_ _)); refine blk_far ?_ NB317_328.out _; (with_reducible repeat (first | refine blk_drewN ?_ _ | refine blk_drew ?_ | refine blk_alloc ?_ _)); refine blk_far ?_ NB317_328.out _; (with_reducible repeat (first | refine blk_drewN ?_ _ | refine blk_drew ?_ | refine blk_alloc ?_ _)); refine blk_far ?_ NB317_328.out _; (with_reducible repeat (first | refine blk_drewN ?_ _ | refine blk_drew ?_ | refine blk_alloc ?_ _)); refine blk_far ?_ NB317_328.out _; (with_reducible repeat (first | refine blk_drewN ?_ _ | refine blk_drew ?_ | refine blk_alloc ?_ _)); refine blk_far ?_ NB317_328.out _; (with_reducible repeat (first | refine blk_drewN ?_ _ | refine blk_drew ?_ | refine blk_alloc ?_ _)); refine blk_far ?_ NB317_328.out _; (with_reducible repeat (first | refine blk_drewN ?_ _ | refine blk_drew ?_ | refine blk_alloc ?_ _)); exact BK317.out) hb); have n2_ := Aside0.mk (blk_below (g := gb328) (o := .cells #[.string t318, .int .i64 t319, .int .i64 t320, .int .i64 t321, .int .i64 t322, .int .i64 t323, .int .i64 t324, .string t325] 23 (0, 0)) (by (with_reducible repeat (first | refine blk_drewN ?_ _ | refine blk_drew ?_ | refine blk_alloc ?_ _)); refine blk_put (cs := #[.string t318, .int .i64 t319, .int .i64 t320, .int .i64 t321, .int .i64 t322, .int .i64 t323, .int .i64 t324, .string (⟨#[]⟩ : ByteArray)]) ?_ 7 _ rfl; (with_reducible repeat (first | refine blk_drewN ?_ _ | refine blk_drew ?_ | refine blk_alloc ?_ _)); refine blk_put (cs := #[.string t318, .int .i64 t319, .int .i64 t320, .int .i64 t321, .int .i64 t322, .int .i64 t323, .int .i64 0, .string (⟨#[]⟩ : ByteArray)]) ?_ 6 _ rfl; (with_reducible repeat (first | refine blk_drewN ?_ _ | refine blk_drew ?_ | refine blk_alloc ?_ _)); refine blk_put (cs := #[.string t318, .int .i64 t319, .int .i64 t320, .int .i64 t321, .int .i64 t322, .int .i64 0, .int .i64 0, .string (⟨#[]⟩ : ByteArray)]) ?_ 5 _ rfl; (with_reducible repeat (first | refine blk_drewN ?_ _ | refine blk_drew ?_ | refine blk_alloc ?_ _)); refine blk_put (cs := #[.string t318, .int .i64 t319, .int .i64 t320, .int .i64 t321, .int .i64 0, .int .i64 0, .int .i64 0, .string (⟨#[]⟩ : ByteArray)]) ?_ 4 _ rfl; (with_reducible repeat (first | refine blk_drewN ?_ _ | refine blk_drew ?_ | refine blk_alloc ?_ _)); refine blk_put (cs := #[.string t318, .int .i64 t319, .int .i64 t320, .int .i64 0, .int .i64 0, .int .i64 0, .int .i64 0, .string (⟨#[]⟩ : ByteArray)]) ?_ 3 _ rfl; (with_reducible repeat (first | refine blk_drewN ?_ _ | refine blk_drew ?_ | refine blk_alloc ?_ _)); refine blk_put (cs := #[.string t318, .int .i64 t319, .int .i64 0, .int .i64 0, .int .i64 0, .int .i64 0, .int .i64 0, .string (⟨#[]⟩ : ByteArray)]) ?_ 2 _ rfl; (with_reducible repeat (first | refine blk_drewN ?_ _ | refine blk_drew ?_ | refine blk_alloc ?_ _)); refine blk_put (cs := #[.string t318, .int .i64 0, .int .i64 0, .int .i64 0, .int .i64 0, .int .i64 0, .int .i64 0, .string (⟨#[]⟩ : ByteArray)]) ?_ 1 _ rfl; (with_reducible repeat (first | refine blk_drewN ?_ _ | refine blk_drew ?_ | refine blk_alloc ?_ _)); refine blk_put (cs := #[.string (⟨#[]⟩ : ByteArray), .int .i64 0, .int .i64 0, .int .i64 0, .int .i64 0, .int .i64 0, .int .i64 0, .string (⟨#[]⟩ : ByteArray)]) ?_ 0 _ rfl; (with_reducible repeat (first | refine blk_drewN ?_ _ | refine blk_drew ?_ | refine blk_alloc ?_ _)); exact BK328.out) hb); have n3_ := Aside0.mk (below_step (by repeat (first | (with_reducible first | exact HB.out | apply below_alloc | apply pw_below_drewN | apply below_drew1 | refine below_set ?_ GE317.out | refine below_set ?_ GE328.out) | exact HB.out)) hb); clear BK317; clear BK328; clear HB; have HO331 := n0_; have BK317 := n1_; have BK328 := n2_; have HB := n3_; clear n0_ n1_ n2_ n3_; (try clear hb); (try clear hb2); (try clear hk); (try clear hi); (try clear ho0)) | (go_at_call 19; (with_reducible refine (masterdiscref20_Differ.calls k a0 t332 _ A12.out).mono ?_); rintro e w24 ⟨v333, rfl, ho0, hb⟩; have n0_ := Aside0.mk (Kd.R_elder' (by (with_reducible repeat (first | apply Kd.R_alloc | apply Kd.R_drewN | apply Kd.R_drew)); exact HO331.out) (Kd.R_base ho0) hb); have n1_ := Aside0.mk (Kd.R_lower (Kd.R_new' ho0 (Kd.R_lt (by (with_reducible repeat (first | apply Kd.R_alloc | apply Kd.R_drewN | apply Kd.R_drew)); exact HO331.out))) (below_size (by repeat (first | (with_reducible first | exact HB.out | apply below_alloc | apply pw_below_drewN | apply below_drew1 | refine below_set ?_ GE317.out | refine below_set ?_ GE328.out) | exact HB.out)))); have n2_ := Aside0.mk (blk_below (g := gb317) (o := .cells #[.string t307, .int .i64 t308, .int .i64 t309, .int .i64 t310, .int .i64 t311, .int .i64 t312, .int .i64 t313, .string t314] 23 (0, 0)) (by (with_reducible repeat (first | refine blk_drewN ?_ _ | refine blk_drew ?_ | refine blk_alloc ?_ _)); exact BK317.out) hb); have n3_ := Aside0.mk (blk_below (g := gb328) (o := .cells #[.string t318, .int .i64 t319, .int .i64 t320, .int .i64 t321, .int .i64 t322, .int .i64 t323, .int .i64 t324, .string t325] 23 (0, 0)) (by (with_reducible repeat (first | refine blk_drewN ?_ _ | refine blk_drew ?_ | refine blk_alloc ?_ _)); exact BK328.out) hb); have n4_ := Aside0.mk (below_step (by repeat (first | (with_reducible first | exact HB.out | apply below_alloc | apply pw_below_drewN | apply below_drew1 | refine below_set ?_ GE317.out | refine below_set ?_ GE328.out) | exact HB.out)) hb); clear HO331; clear BK317; clear BK328; clear HB; have HO331 := n0_; have HO334 := n1_; have BK317 := n2_; have BK328 := n3_; have HB := n4_; clear n0_ n1_ n2_ n3_ n4_; (try clear hb); (try clear hb2); (try clear hk); (try clear hi); (try clear ho0); obtain ⟨Ao25, co25, eo25⟩ := Kd.R_slice HO331.out; subst eo25; obtain ⟨Ao26, co26, eo26⟩ := Kd.R_slice HO334.out; subst eo26) | (go_at_call 17; (with_reducible refine (slices_Equal_int_int.calls k _ _ t329 _ _ t332 t335 _ ?side1 ?side2 ?side3 ?side4 A13.out).mono ?_); (case side1 => repeat (first | exact (Kd.R_reads' HO331.out).2.2 | (with_reducible refine Kd.C_alloc ?_ _) | (with_reducible refine Kd.C_drewN ?_ _) | (with_reducible refine Kd.C_drew ?_))); (case side2 => exact (Kd.R_reads' HO331.out).2.1); (case side3 => repeat (first | exact (Kd.R_reads' HO334.out).2.2 | (with_reducible refine Kd.C_alloc ?_ _) | (with_reducible refine Kd.C_drewN ?_ _) | (with_reducible refine Kd.C_drew ?_))); (case side4 => exact (Kd.R_reads' HO334.out).2.1); rintro e w' ⟨rfl, ⟨nd, rfl⟩⟩))
            go_ret
            exact ⟨by first | rfl | (simp [errW_none, errW_some] <;> rfl) | (simp [*, errW_none, errW_some] <;> rfl), by repeat (first | (with_reducible first | exact HB.out | apply below_alloc | apply pw_below_drewN | apply below_drew1 | refine below_set ?_ GE317.out | refine below_set ?_ GE328.out) | exact HB.out)⟩
          · rw [if_neg c10] at H
            have c10b0 : (t316 == t327) = false := beq_eq_false_iff_ne.mpr c10
            have c10b1 : (t316 != t327) = true := bne_iff_ne.mpr c10
            obtain rfl := Option.some.inj H
            go_enter Try.func4, Try.ntmps4
            go_wp2_with (first | ((with_reducible refine gate_callee (f := 10) rfl ?_); refine goesL_ (some 9) rfl rfl Try.func10 (by kernel_rfl) rfl #[] rfl (by (try simp only [List.map_toArray, List.map_cons, List.map_nil]); first | done | rfl | (simp only [List.length_drop, List.length_take]; rfl)) ?_; (with_reducible refine (masterdisclaw20_awake.calls  true _ A2.out).mono ?_); rintro e w27 ⟨rfl, hb⟩; refine ⟨_, rfl, ?_⟩; have n0_ := Aside0.mk (below_step (by repeat (first | (with_reducible first | exact HB.out | apply below_alloc | apply pw_below_drewN | apply below_drew1) | exact HB.out)) hb); clear HB; have HB := n0_; clear n0_; (try clear hb); (try clear hb2); (try clear hk); (try clear hi)) | ((with_reducible refine gate_callee (f := 15) rfl ?_); refine goesL_ (some 16) rfl rfl Try.func15 (by kernel_rfl) rfl #[.string a0] rfl (by (try simp only [List.map_toArray, List.map_cons, List.map_nil]); first | done | rfl | (simp only [List.length_drop, List.length_take]; rfl)) ?_; (with_reducible refine (dirrecord_Decode.calls k a0 t307 t308 t309 t310 t311 t312 t313 t314 t315 t316 _ A6.out).mono ?_); rintro e w28 ⟨rfl, hb⟩; refine ⟨_, rfl, ?_⟩; have n0_ := Aside0.mk (below_step (by repeat (first | (with_reducible first | exact HB.out | apply below_alloc | apply pw_below_drewN | apply below_drew1) | exact HB.out)) hb); clear HB; have HB := n0_; clear n0_; (try clear hb); (try clear hb2); (try clear hk); (try clear hi)) | ((with_reducible refine gate_dst (N := 3) rfl ?_); refine box_event ?hg (N := 3) ?hd (cs := #[.string (⟨#[]⟩ : ByteArray), .int .i64 0, .int .i64 0, .int .i64 0, .int .i64 0, .int .i64 0, .int .i64 0, .string (⟨#[]⟩ : ByteArray)]) (t := 23) ?hr ?_; (case hd => rfl); (case hg => rfl); (case hr => first | (go_simp; done) | (go_simp; rfl)); intro gb317 hg w29 hbox hb; have n0_ := Aside0.mk (below_step (by repeat (first | (with_reducible first | exact HB.out | apply below_alloc | apply pw_below_drewN | apply below_drew1) | exact HB.out)) hb); have n1_ := Aside0.mk (hbox); have n2_ := Aside0.mk ((by rw [hg]; exact (below_size (by repeat (first | (with_reducible first | exact HB.out | apply below_alloc | apply pw_below_drewN | apply below_drew1) | exact HB.out))) : w.heap.size ≤ gb317)); have n3_ := Aside0.mk ((by rw [hg]; exact (below_size (by repeat (first | (with_reducible first | exact HB.out | apply below_alloc | apply pw_below_drewN | apply below_drew1) | exact HB.out))) : w.heap.size ≤ gb317)); clear HB; have HB := n0_; have BK317 := n1_; have GW317 := n2_; have GE317 := n3_; clear n0_ n1_ n2_ n3_; clear hb hbox hg; have hcz30_0 : w29.cell? ⟨gb317, 0, none⟩ = some (.string (⟨#[]⟩ : ByteArray)) := (blk_cell BK317.out 0).trans rfl; have hcz30_1 : w29.cell? ⟨gb317, 1, none⟩ = some (.int .i64 0) := (blk_cell BK317.out 1).trans rfl; have hcz30_2 : w29.cell? ⟨gb317, 2, none⟩ = some (.int .i64 0) := (blk_cell BK317.out 2).trans rfl; have hcz30_3 : w29.cell? ⟨gb317, 3, none⟩ = some (.int .i64 0) := (blk_cell BK317.out 3).trans rfl; have hcz30_4 : w29.cell? ⟨gb317, 4, none⟩ = some (.int .i64 0) := (blk_cell BK317.out 4).trans rfl; have hcz30_5 : w29.cell? ⟨gb317, 5, none⟩ = some (.int .i64 0) := (blk_cell BK317.out 5).trans rfl; have hcz30_6 : w29.cell? ⟨gb317, 6, none⟩ = some (.int .i64 0) := (blk_cell BK317.out 6).trans rfl; have hcz30_7 : w29.cell? ⟨gb317, 7, none⟩ = some (.string (⟨#[]⟩ : ByteArray)) := (blk_cell BK317.out 7).trans rfl; have hfz30_0 := blk_frozen BK317.out 0; have hfz30_1 := blk_frozen BK317.out 1; have hfz30_2 := blk_frozen BK317.out 2; have hfz30_3 := blk_frozen BK317.out 3; have hfz30_4 := blk_frozen BK317.out 4; have hfz30_5 := blk_frozen BK317.out 5; have hfz30_6 := blk_frozen BK317.out 6; have hfz30_7 := blk_frozen BK317.out 7) | ((with_reducible refine gate_callee (f := 16) rfl ?_); refine goesL_ (some 22) rfl rfl Try.func16 (by kernel_rfl) rfl #[.string a0] rfl (by (try simp only [List.map_toArray, List.map_cons, List.map_nil]); first | done | rfl | (simp only [List.length_drop, List.length_take]; rfl)) ?_; (with_reducible refine (masterdiscref20_Decode.calls k a0 t318 t319 t320 t321 t322 t323 t324 t325 t326 t327 _ A7.out).mono ?_); rintro e w31 ⟨rfl, hb⟩; refine ⟨_, rfl, ?_⟩; have n0_ := Aside0.mk (blk_below (g := gb317) (o := .cells #[.string t307, .int .i64 t308, .int .i64 t309, .int .i64 t310, .int .i64 t311, .int .i64 t312, .int .i64 t313, .string t314] 23 (0, 0)) (by (with_reducible repeat (first | refine blk_drewN ?_ _ | refine blk_drew ?_ | refine blk_alloc ?_ _)); refine blk_put (cs := #[.string t307, .int .i64 t308, .int .i64 t309, .int .i64 t310, .int .i64 t311, .int .i64 t312, .int .i64 t313, .string (⟨#[]⟩ : ByteArray)]) ?_ 7 _ rfl; (with_reducible repeat (first | refine blk_drewN ?_ _ | refine blk_drew ?_ | refine blk_alloc ?_ _)); refine blk_put (cs := #[.string t307, .int .i64 t308, .int .i64 t309, .int .i64 t310, .int .i64 t311, .int .i64 t312, .int .i64 0, .string (⟨#[]⟩ : ByteArray)]) ?_ 6 _ rfl; (with_reducible repeat (first | refine blk_drewN ?_ _ | refine blk_drew ?_ | refine blk_alloc ?_ _)); refine blk_put (cs := #[.string t307, .int .i64 t308, .int .i64 t309, .int .i64 t310, .int .i64 t311, .int .i64 0, .int .i64 0, .string (⟨#[]⟩ : ByteArray)]) ?_ 5 _ rfl; (with_reducible repeat (first | refine blk_drewN ?_ _ | refine blk_drew ?_ | refine blk_alloc ?_ _)); refine blk_put (cs := #[.string t307, .int .i64 t308, .int .i64 t309, .int .i64 t310, .int .i64 0, .int .i64 0, .int .i64 0, .string (⟨#[]⟩ : ByteArray)]) ?_ 4 _ rfl; (with_reducible repeat (first | refine blk_drewN ?_ _ | refine blk_drew ?_ | refine blk_alloc ?_ _)); refine blk_put (cs := #[.string t307, .int .i64 t308, .int .i64 t309, .int .i64 0, .int .i64 0, .int .i64 0, .int .i64 0, .string (⟨#[]⟩ : ByteArray)]) ?_ 3 _ rfl; (with_reducible repeat (first | refine blk_drewN ?_ _ | refine blk_drew ?_ | refine blk_alloc ?_ _)); refine blk_put (cs := #[.string t307, .int .i64 t308, .int .i64 0, .int .i64 0, .int .i64 0, .int .i64 0, .int .i64 0, .string (⟨#[]⟩ : ByteArray)]) ?_ 2 _ rfl; (with_reducible repeat (first | refine blk_drewN ?_ _ | refine blk_drew ?_ | refine blk_alloc ?_ _)); refine blk_put (cs := #[.string t307, .int .i64 0, .int .i64 0, .int .i64 0, .int .i64 0, .int .i64 0, .int .i64 0, .string (⟨#[]⟩ : ByteArray)]) ?_ 1 _ rfl; (with_reducible repeat (first | refine blk_drewN ?_ _ | refine blk_drew ?_ | refine blk_alloc ?_ _)); refine blk_put (cs := #[.string (⟨#[]⟩ : ByteArray), .int .i64 0, .int .i64 0, .int .i64 0, .int .i64 0, .int .i64 0, .int .i64 0, .string (⟨#[]⟩ : ByteArray)]) ?_ 0 _ rfl; (with_reducible repeat (first | refine blk_drewN ?_ _ | refine blk_drew ?_ | refine blk_alloc ?_ _)); exact BK317.out) hb); have n1_ := Aside0.mk (below_step (by repeat (first | (with_reducible first | exact HB.out | apply below_alloc | apply pw_below_drewN | apply below_drew1 | refine below_set ?_ GE317.out) | exact HB.out)) hb); clear BK317; clear HB; have BK317 := n0_; have HB := n1_; clear n0_ n1_; (try clear hb); (try clear hb2); (try clear hk); (try clear hi)) | ((with_reducible refine gate_dst (N := 6) rfl ?_); refine box_event ?hg (N := 6) ?hd (cs := #[.string (⟨#[]⟩ : ByteArray), .int .i64 0, .int .i64 0, .int .i64 0, .int .i64 0, .int .i64 0, .int .i64 0, .string (⟨#[]⟩ : ByteArray)]) (t := 23) ?hr ?_; (case hd => rfl); (case hg => rfl); (case hr => first | (go_simp; done) | (go_simp; rfl)); intro gb328 hg w32 hbox hb; have n0_ := Aside0.mk (blk_below (g := gb317) (o := .cells #[.string t307, .int .i64 t308, .int .i64 t309, .int .i64 t310, .int .i64 t311, .int .i64 t312, .int .i64 t313, .string t314] 23 (0, 0)) (by (with_reducible repeat (first | refine blk_drewN ?_ _ | refine blk_drew ?_ | refine blk_alloc ?_ _)); exact BK317.out) hb); have n1_ := Aside0.mk (below_step (by repeat (first | (with_reducible first | exact HB.out | apply below_alloc | apply pw_below_drewN | apply below_drew1 | refine below_set ?_ GE317.out) | exact HB.out)) hb); have n2_ := Aside0.mk (hbox); have n3_ := Aside0.mk ((by rw [hg]; exact (below_size (by repeat (first | (with_reducible first | exact HB.out | apply below_alloc | apply pw_below_drewN | apply below_drew1 | refine below_set ?_ GE317.out) | exact HB.out))) : w.heap.size ≤ gb328)); have n4_ := Aside0.mk ((by rw [hg]; exact (below_size (by repeat (first | (with_reducible first | exact HB.out | apply below_alloc | apply pw_below_drewN | apply below_drew1 | refine below_set ?_ GE317.out) | exact HB.out))) : w.heap.size ≤ gb328)); have n5_ := Aside0.mk ((by rw [hg]; exact Nat.ne_of_lt (blk_lt (g := gb317) (o := .cells #[.string t307, .int .i64 t308, .int .i64 t309, .int .i64 t310, .int .i64 t311, .int .i64 t312, .int .i64 t313, .string t314] 23 (0, 0)) (by (with_reducible repeat (first | refine blk_drewN ?_ _ | refine blk_drew ?_ | refine blk_alloc ?_ _)); exact BK317.out)) : gb317 ≠ gb328)); have n6_ := Aside0.mk ((by rw [hg]; exact Nat.ne_of_gt (blk_lt (g := gb317) (o := .cells #[.string t307, .int .i64 t308, .int .i64 t309, .int .i64 t310, .int .i64 t311, .int .i64 t312, .int .i64 t313, .string t314] 23 (0, 0)) (by (with_reducible repeat (first | refine blk_drewN ?_ _ | refine blk_drew ?_ | refine blk_alloc ?_ _)); exact BK317.out)) : gb328 ≠ gb317)); clear BK317; clear HB; have BK317 := n0_; have HB := n1_; have BK328 := n2_; have GW328 := n3_; have GE328 := n4_; have NB317_328 := n5_; have NB328_317 := n6_; clear n0_ n1_ n2_ n3_ n4_ n5_ n6_; clear hb hbox hg; have hnb33 := NB328_317.out; have hnc33 := NB317_328.out; have hcz34_0 : w32.cell? ⟨gb328, 0, none⟩ = some (.string (⟨#[]⟩ : ByteArray)) := (blk_cell BK328.out 0).trans rfl; have hcz34_1 : w32.cell? ⟨gb328, 1, none⟩ = some (.int .i64 0) := (blk_cell BK328.out 1).trans rfl; have hcz34_2 : w32.cell? ⟨gb328, 2, none⟩ = some (.int .i64 0) := (blk_cell BK328.out 2).trans rfl; have hcz34_3 : w32.cell? ⟨gb328, 3, none⟩ = some (.int .i64 0) := (blk_cell BK328.out 3).trans rfl; have hcz34_4 : w32.cell? ⟨gb328, 4, none⟩ = some (.int .i64 0) := (blk_cell BK328.out 4).trans rfl; have hcz34_5 : w32.cell? ⟨gb328, 5, none⟩ = some (.int .i64 0) := (blk_cell BK328.out 5).trans rfl; have hcz34_6 : w32.cell? ⟨gb328, 6, none⟩ = some (.int .i64 0) := (blk_cell BK328.out 6).trans rfl; have hcz34_7 : w32.cell? ⟨gb328, 7, none⟩ = some (.string (⟨#[]⟩ : ByteArray)) := (blk_cell BK328.out 7).trans rfl; have hfz34_0 := blk_frozen BK328.out 0; have hfz34_1 := blk_frozen BK328.out 1; have hfz34_2 := blk_frozen BK328.out 2; have hfz34_3 := blk_frozen BK328.out 3; have hfz34_4 := blk_frozen BK328.out 4; have hfz34_5 := blk_frozen BK328.out 5; have hfz34_6 := blk_frozen BK328.out 6; have hfz34_7 := blk_frozen BK328.out 7; have hcz35_0 : w32.cell? ⟨gb317, 0, none⟩ = some (.string t307) := (blk_cell BK317.out 0).trans rfl; have hcz35_1 : w32.cell? ⟨gb317, 1, none⟩ = some (.int .i64 t308) := (blk_cell BK317.out 1).trans rfl; have hcz35_2 : w32.cell? ⟨gb317, 2, none⟩ = some (.int .i64 t309) := (blk_cell BK317.out 2).trans rfl; have hcz35_3 : w32.cell? ⟨gb317, 3, none⟩ = some (.int .i64 t310) := (blk_cell BK317.out 3).trans rfl; have hcz35_4 : w32.cell? ⟨gb317, 4, none⟩ = some (.int .i64 t311) := (blk_cell BK317.out 4).trans rfl; have hcz35_5 : w32.cell? ⟨gb317, 5, none⟩ = some (.int .i64 t312) := (blk_cell BK317.out 5).trans rfl; have hcz35_6 : w32.cell? ⟨gb317, 6, none⟩ = some (.int .i64 t313) := (blk_cell BK317.out 6).trans rfl; have hcz35_7 : w32.cell? ⟨gb317, 7, none⟩ = some (.string t314) := (blk_cell BK317.out 7).trans rfl; have hfz35_0 := blk_frozen BK317.out 0; have hfz35_1 := blk_frozen BK317.out 1; have hfz35_2 := blk_frozen BK317.out 2; have hfz35_3 := blk_frozen BK317.out 3; have hfz35_4 := blk_frozen BK317.out 4; have hfz35_5 := blk_frozen BK317.out 5; have hfz35_6 := blk_frozen BK317.out 6; have hfz35_7 := blk_frozen BK317.out 7))
            go_ret
            exact ⟨by first | rfl | (simp [errW_none, errW_some] <;> rfl) | (simp [*, errW_none, errW_some] <;> rfl), by repeat (first | (with_reducible first | exact HB.out | apply below_alloc | apply pw_below_drewN | apply below_drew1 | refine below_set ?_ GE317.out | refine below_set ?_ GE328.out) | exact HB.out)⟩
        · rw [if_neg c9] at H
          have c9b0 : (t315 == t326) = false := beq_eq_false_iff_ne.mpr c9
          have c9b1 : (t315 != t326) = true := bne_iff_ne.mpr c9
          obtain rfl := Option.some.inj H
          go_enter Try.func4, Try.ntmps4
          go_wp2_with (first | ((with_reducible refine gate_callee (f := 10) rfl ?_); refine goesL_ (some 9) rfl rfl Try.func10 (by kernel_rfl) rfl #[] rfl (by (try simp only [List.map_toArray, List.map_cons, List.map_nil]); first | done | rfl | (simp only [List.length_drop, List.length_take]; rfl)) ?_; (with_reducible refine (masterdisclaw20_awake.calls  true _ A2.out).mono ?_); rintro e w36 ⟨rfl, hb⟩; refine ⟨_, rfl, ?_⟩; have n0_ := Aside0.mk (below_step (by repeat (first | (with_reducible first | exact HB.out | apply below_alloc | apply pw_below_drewN | apply below_drew1) | exact HB.out)) hb); clear HB; have HB := n0_; clear n0_; (try clear hb); (try clear hb2); (try clear hk); (try clear hi)) | ((with_reducible refine gate_callee (f := 15) rfl ?_); refine goesL_ (some 16) rfl rfl Try.func15 (by kernel_rfl) rfl #[.string a0] rfl (by (try simp only [List.map_toArray, List.map_cons, List.map_nil]); first | done | rfl | (simp only [List.length_drop, List.length_take]; rfl)) ?_; (with_reducible refine (dirrecord_Decode.calls k a0 t307 t308 t309 t310 t311 t312 t313 t314 t315 t316 _ A6.out).mono ?_); rintro e w37 ⟨rfl, hb⟩; refine ⟨_, rfl, ?_⟩; have n0_ := Aside0.mk (below_step (by repeat (first | (with_reducible first | exact HB.out | apply below_alloc | apply pw_below_drewN | apply below_drew1) | exact HB.out)) hb); clear HB; have HB := n0_; clear n0_; (try clear hb); (try clear hb2); (try clear hk); (try clear hi)) | ((with_reducible refine gate_dst (N := 3) rfl ?_); refine box_event ?hg (N := 3) ?hd (cs := #[.string (⟨#[]⟩ : ByteArray), .int .i64 0, .int .i64 0, .int .i64 0, .int .i64 0, .int .i64 0, .int .i64 0, .string (⟨#[]⟩ : ByteArray)]) (t := 23) ?hr ?_; (case hd => rfl); (case hg => rfl); (case hr => first | (go_simp; done) | (go_simp; rfl)); intro gb317 hg w38 hbox hb; have n0_ := Aside0.mk (below_step (by repeat (first | (with_reducible first | exact HB.out | apply below_alloc | apply pw_below_drewN | apply below_drew1) | exact HB.out)) hb); have n1_ := Aside0.mk (hbox); have n2_ := Aside0.mk ((by rw [hg]; exact (below_size (by repeat (first | (with_reducible first | exact HB.out | apply below_alloc | apply pw_below_drewN | apply below_drew1) | exact HB.out))) : w.heap.size ≤ gb317)); have n3_ := Aside0.mk ((by rw [hg]; exact (below_size (by repeat (first | (with_reducible first | exact HB.out | apply below_alloc | apply pw_below_drewN | apply below_drew1) | exact HB.out))) : w.heap.size ≤ gb317)); clear HB; have HB := n0_; have BK317 := n1_; have GW317 := n2_; have GE317 := n3_; clear n0_ n1_ n2_ n3_; clear hb hbox hg; have hcz39_0 : w38.cell? ⟨gb317, 0, none⟩ = some (.string (⟨#[]⟩ : ByteArray)) := (blk_cell BK317.out 0).trans rfl; have hcz39_1 : w38.cell? ⟨gb317, 1, none⟩ = some (.int .i64 0) := (blk_cell BK317.out 1).trans rfl; have hcz39_2 : w38.cell? ⟨gb317, 2, none⟩ = some (.int .i64 0) := (blk_cell BK317.out 2).trans rfl; have hcz39_3 : w38.cell? ⟨gb317, 3, none⟩ = some (.int .i64 0) := (blk_cell BK317.out 3).trans rfl; have hcz39_4 : w38.cell? ⟨gb317, 4, none⟩ = some (.int .i64 0) := (blk_cell BK317.out 4).trans rfl; have hcz39_5 : w38.cell? ⟨gb317, 5, none⟩ = some (.int .i64 0) := (blk_cell BK317.out 5).trans rfl; have hcz39_6 : w38.cell? ⟨gb317, 6, none⟩ = some (.int .i64 0) := (blk_cell BK317.out 6).trans rfl; have hcz39_7 : w38.cell? ⟨gb317, 7, none⟩ = some (.string (⟨#[]⟩ : ByteArray)) := (blk_cell BK317.out 7).trans rfl; have hfz39_0 := blk_frozen BK317.out 0; have hfz39_1 := blk_frozen BK317.out 1; have hfz39_2 := blk_frozen BK317.out 2; have hfz39_3 := blk_frozen BK317.out 3; have hfz39_4 := blk_frozen BK317.out 4; have hfz39_5 := blk_frozen BK317.out 5; have hfz39_6 := blk_frozen BK317.out 6; have hfz39_7 := blk_frozen BK317.out 7) | ((with_reducible refine gate_callee (f := 16) rfl ?_); refine goesL_ (some 22) rfl rfl Try.func16 (by kernel_rfl) rfl #[.string a0] rfl (by (try simp only [List.map_toArray, List.map_cons, List.map_nil]); first | done | rfl | (simp only [List.length_drop, List.length_take]; rfl)) ?_; (with_reducible refine (masterdiscref20_Decode.calls k a0 t318 t319 t320 t321 t322 t323 t324 t325 t326 t327 _ A7.out).mono ?_); rintro e w40 ⟨rfl, hb⟩; refine ⟨_, rfl, ?_⟩; have n0_ := Aside0.mk (blk_below (g := gb317) (o := .cells #[.string t307, .int .i64 t308, .int .i64 t309, .int .i64 t310, .int .i64 t311, .int .i64 t312, .int .i64 t313, .string t314] 23 (0, 0)) (by (with_reducible repeat (first | refine blk_drewN ?_ _ | refine blk_drew ?_ | refine blk_alloc ?_ _)); refine blk_put (cs := #[.string t307, .int .i64 t308, .int .i64 t309, .int .i64 t310, .int .i64 t311, .int .i64 t312, .int .i64 t313, .string (⟨#[]⟩ : ByteArray)]) ?_ 7 _ rfl; (with_reducible repeat (first | refine blk_drewN ?_ _ | refine blk_drew ?_ | refine blk_alloc ?_ _)); refine blk_put (cs := #[.string t307, .int .i64 t308, .int .i64 t309, .int .i64 t310, .int .i64 t311, .int .i64 t312, .int .i64 0, .string (⟨#[]⟩ : ByteArray)]) ?_ 6 _ rfl; (with_reducible repeat (first | refine blk_drewN ?_ _ | refine blk_drew ?_ | refine blk_alloc ?_ _)); refine blk_put (cs := #[.string t307, .int .i64 t308, .int .i64 t309, .int .i64 t310, .int .i64 t311, .int .i64 0, .int .i64 0, .string (⟨#[]⟩ : ByteArray)]) ?_ 5 _ rfl; (with_reducible repeat (first | refine blk_drewN ?_ _ | refine blk_drew ?_ | refine blk_alloc ?_ _)); refine blk_put (cs := #[.string t307, .int .i64 t308, .int .i64 t309, .int .i64 t310, .int .i64 0, .int .i64 0, .int .i64 0, .string (⟨#[]⟩ : ByteArray)]) ?_ 4 _ rfl; (with_reducible repeat (first | refine blk_drewN ?_ _ | refine blk_drew ?_ | refine blk_alloc ?_ _)); refine blk_put (cs := #[.string t307, .int .i64 t308, .int .i64 t309, .int .i64 0, .int .i64 0, .int .i64 0, .int .i64 0, .string (⟨#[]⟩ : ByteArray)]) ?_ 3 _ rfl; (with_reducible repeat (first | refine blk_drewN ?_ _ | refine blk_drew ?_ | refine blk_alloc ?_ _)); refine blk_put (cs := #[.string t307, .int .i64 t308, .int .i64 0, .int .i64 0, .int .i64 0, .int .i64 0, .int .i64 0, .string (⟨#[]⟩ : ByteArray)]) ?_ 2 _ rfl; (with_reducible repeat (first | refine blk_drewN ?_ _ | refine blk_drew ?_ | refine blk_alloc ?_ _)); refine blk_put (cs := #[.string t307, .int .i64 0, .int .i64 0, .int .i64 0, .int .i64 0, .int .i64 0, .int .i64 0, .string (⟨#[]⟩ : ByteArray)]) ?_ 1 _ rfl; (with_reducible repeat (first | refine blk_drewN ?_ _ | refine blk_drew ?_ | refine blk_alloc ?_ _)); refine blk_put (cs := #[.string (⟨#[]⟩ : ByteArray), .int .i64 0, .int .i64 0, .int .i64 0, .int .i64 0, .int .i64 0, .int .i64 0, .string (⟨#[]⟩ : ByteArray)]) ?_ 0 _ rfl; (with_reducible repeat (first | refine blk_drewN ?_ _ | refine blk_drew ?_ | refine blk_alloc ?_ _)); exact BK317.out) hb); have n1_ := Aside0.mk (below_step (by repeat (first | (with_reducible first | exact HB.out | apply below_alloc | apply pw_below_drewN | apply below_drew1 | refine below_set ?_ GE317.out) | exact HB.out)) hb); clear BK317; clear HB; have BK317 := n0_; have HB := n1_; clear n0_ n1_; (try clear hb); (try clear hb2); (try clear hk); (try clear hi)) | ((with_reducible refine gate_dst (N := 6) rfl ?_); refine box_event ?hg (N := 6) ?hd (cs := #[.string (⟨#[]⟩ : ByteArray), .int .i64 0, .int .i64 0, .int .i64 0, .int .i64 0, .int .i64 0, .int .i64 0, .string (⟨#[]⟩ : ByteArray)]) (t := 23) ?hr ?_; (case hd => rfl); (case hg => rfl); (case hr => first | (go_simp; done) | (go_simp; rfl)); intro gb328 hg w41 hbox hb; have n0_ := Aside0.mk (blk_below (g := gb317) (o := .cells #[.string t307, .int .i64 t308, .int .i64 t309, .int .i64 t310, .int .i64 t311, .int .i64 t312, .int .i64 t313, .string t314] 23 (0, 0)) (by (with_reducible repeat (first | refine blk_drewN ?_ _ | refine blk_drew ?_ | refine blk_alloc ?_ _)); exact BK317.out) hb); have n1_ := Aside0.mk (below_step (by repeat (first | (with_reducible first | exact HB.out | apply below_alloc | apply pw_below_drewN | apply below_drew1 | refine below_set ?_ GE317.out) | exact HB.out)) hb); have n2_ := Aside0.mk (hbox); have n3_ := Aside0.mk ((by rw [hg]; exact (below_size (by repeat (first | (with_reducible first | exact HB.out | apply below_alloc | apply pw_below_drewN | apply below_drew1 | refine below_set ?_ GE317.out) | exact HB.out))) : w.heap.size ≤ gb328)); have n4_ := Aside0.mk ((by rw [hg]; exact (below_size (by repeat (first | (with_reducible first | exact HB.out | apply below_alloc | apply pw_below_drewN | apply below_drew1 | refine below_set ?_ GE317.out) | exact HB.out))) : w.heap.size ≤ gb328)); have n5_ := Aside0.mk ((by rw [hg]; exact Nat.ne_of_lt (blk_lt (g := gb317) (o := .cells #[.string t307, .int .i64 t308, .int .i64 t309, .int .i64 t310, .int .i64 t311, .int .i64 t312, .int .i64 t313, .string t314] 23 (0, 0)) (by (with_reducible repeat (first | refine blk_drewN ?_ _ | refine blk_drew ?_ | refine blk_alloc ?_ _)); exact BK317.out)) : gb317 ≠ gb328)); have n6_ := Aside0.mk ((by rw [hg]; exact Nat.ne_of_gt (blk_lt (g := gb317) (o := .cells #[.string t307, .int .i64 t308, .int .i64 t309, .int .i64 t310, .int .i64 t311, .int .i64 t312, .int .i64 t313, .string t314] 23 (0, 0)) (by (with_reducible repeat (first | refine blk_drewN ?_ _ | refine blk_drew ?_ | refine blk_alloc ?_ _)); exact BK317.out)) : gb328 ≠ gb317)); clear BK317; clear HB; have BK317 := n0_; have HB := n1_; have BK328 := n2_; have GW328 := n3_; have GE328 := n4_; have NB317_328 := n5_; have NB328_317 := n6_; clear n0_ n1_ n2_ n3_ n4_ n5_ n6_; clear hb hbox hg; have hnb42 := NB328_317.out; have hnc42 := NB317_328.out; have hcz43_0 : w41.cell? ⟨gb328, 0, none⟩ = some (.string (⟨#[]⟩ : ByteArray)) := (blk_cell BK328.out 0).trans rfl; have hcz43_1 : w41.cell? ⟨gb328, 1, none⟩ = some (.int .i64 0) := (blk_cell BK328.out 1).trans rfl; have hcz43_2 : w41.cell? ⟨gb328, 2, none⟩ = some (.int .i64 0) := (blk_cell BK328.out 2).trans rfl; have hcz43_3 : w41.cell? ⟨gb328, 3, none⟩ = some (.int .i64 0) := (blk_cell BK328.out 3).trans rfl; have hcz43_4 : w41.cell? ⟨gb328, 4, none⟩ = some (.int .i64 0) := (blk_cell BK328.out 4).trans rfl; have hcz43_5 : w41.cell? ⟨gb328, 5, none⟩ = some (.int .i64 0) := (blk_cell BK328.out 5).trans rfl; have hcz43_6 : w41.cell? ⟨gb328, 6, none⟩ = some (.int .i64 0) := (blk_cell BK328.out 6).trans rfl; have hcz43_7 : w41.cell? ⟨gb328, 7, none⟩ = some (.string (⟨#[]⟩ : ByteArray)) := (blk_cell BK328.out 7).trans rfl; have hfz43_0 := blk_frozen BK328.out 0; have hfz43_1 := blk_frozen BK328.out 1; have hfz43_2 := blk_frozen BK328.out 2; have hfz43_3 := blk_frozen BK328.out 3; have hfz43_4 := blk_frozen BK328.out 4; have hfz43_5 := blk_frozen BK328.out 5; have hfz43_6 := blk_frozen BK328.out 6; have hfz43_7 := blk_frozen BK328.out 7; have hcz44_0 : w41.cell? ⟨gb317, 0, none⟩ = some (.string t307) := (blk_cell BK317.out 0).trans rfl; have hcz44_1 : w41.cell? ⟨gb317, 1, none⟩ = some (.int .i64 t308) := (blk_cell BK317.out 1).trans rfl; have hcz44_2 : w41.cell? ⟨gb317, 2, none⟩ = some (.int .i64 t309) := (blk_cell BK317.out 2).trans rfl; have hcz44_3 : w41.cell? ⟨gb317, 3, none⟩ = some (.int .i64 t310) := (blk_cell BK317.out 3).trans rfl; have hcz44_4 : w41.cell? ⟨gb317, 4, none⟩ = some (.int .i64 t311) := (blk_cell BK317.out 4).trans rfl; have hcz44_5 : w41.cell? ⟨gb317, 5, none⟩ = some (.int .i64 t312) := (blk_cell BK317.out 5).trans rfl; have hcz44_6 : w41.cell? ⟨gb317, 6, none⟩ = some (.int .i64 t313) := (blk_cell BK317.out 6).trans rfl; have hcz44_7 : w41.cell? ⟨gb317, 7, none⟩ = some (.string t314) := (blk_cell BK317.out 7).trans rfl; have hfz44_0 := blk_frozen BK317.out 0; have hfz44_1 := blk_frozen BK317.out 1; have hfz44_2 := blk_frozen BK317.out 2; have hfz44_3 := blk_frozen BK317.out 3; have hfz44_4 := blk_frozen BK317.out 4; have hfz44_5 := blk_frozen BK317.out 5; have hfz44_6 := blk_frozen BK317.out 6; have hfz44_7 := blk_frozen BK317.out 7))
          go_ret
          exact ⟨by first | rfl | (simp [errW_none, errW_some] <;> rfl) | (simp [*, errW_none, errW_some] <;> rfl), by repeat (first | (with_reducible first | exact HB.out | apply below_alloc | apply pw_below_drewN | apply below_drew1 | refine below_set ?_ GE317.out | refine below_set ?_ GE328.out) | exact HB.out)⟩
      · rw [if_neg c8] at H
        have c8b0 : (t307.toList == t318.toList && (t308 == t319 && (t309 == t320 && (t310 == t321 && (t311 == t322 && (t312 == t323 && (t313 == t324 && (t314.toList == t325.toList)))))))) = false := by simpa using c8
        (try (have c8b1 : decide (t307.toList = t318.toList && (t308 == t319 && (t309 == t320 && (t310 == t321 && (t311 == t322 && (t312 == t323 && (t313 == t324 && (t314.toList == t325.toList)))))))) = false := by simpa using c8))
        (try (have c8b2 : (t307.toList == t318.toList && (t308 == t319 && (t309 == t320 && (t310 == t321 && (t311 == t322 && (t312 == t323 && (t313 == t324 && (t314.toList == t325.toList)))))))) = false := by simpa using c8))
        (try (have c8b3 : ¬ (t307.toList = t318.toList && (t308 == t319 && (t309 == t320 && (t310 == t321 && (t311 == t322 && (t312 == t323 && (t313 == t324 && (t314.toList == t325.toList)))))))) := by simpa using c8))
        clear c8
        obtain rfl := Option.some.inj H
        go_enter Try.func4, Try.ntmps4
        go_wp2_with (first | ((with_reducible refine gate_callee (f := 10) rfl ?_); refine goesL_ (some 9) rfl rfl Try.func10 (by kernel_rfl) rfl #[] rfl (by (try simp only [List.map_toArray, List.map_cons, List.map_nil]); first | done | rfl | (simp only [List.length_drop, List.length_take]; rfl)) ?_; (with_reducible refine (masterdisclaw20_awake.calls  true _ A2.out).mono ?_); rintro e w45 ⟨rfl, hb⟩; refine ⟨_, rfl, ?_⟩; have n0_ := Aside0.mk (below_step (by repeat (first | (with_reducible first | exact HB.out | apply below_alloc | apply pw_below_drewN | apply below_drew1) | exact HB.out)) hb); clear HB; have HB := n0_; clear n0_; (try clear hb); (try clear hb2); (try clear hk); (try clear hi)) | ((with_reducible refine gate_callee (f := 15) rfl ?_); refine goesL_ (some 16) rfl rfl Try.func15 (by kernel_rfl) rfl #[.string a0] rfl (by (try simp only [List.map_toArray, List.map_cons, List.map_nil]); first | done | rfl | (simp only [List.length_drop, List.length_take]; rfl)) ?_; (with_reducible refine (dirrecord_Decode.calls k a0 t307 t308 t309 t310 t311 t312 t313 t314 t315 t316 _ A6.out).mono ?_); rintro e w46 ⟨rfl, hb⟩; refine ⟨_, rfl, ?_⟩; have n0_ := Aside0.mk (below_step (by repeat (first | (with_reducible first | exact HB.out | apply below_alloc | apply pw_below_drewN | apply below_drew1) | exact HB.out)) hb); clear HB; have HB := n0_; clear n0_; (try clear hb); (try clear hb2); (try clear hk); (try clear hi)) | ((with_reducible refine gate_dst (N := 3) rfl ?_); refine box_event ?hg (N := 3) ?hd (cs := #[.string (⟨#[]⟩ : ByteArray), .int .i64 0, .int .i64 0, .int .i64 0, .int .i64 0, .int .i64 0, .int .i64 0, .string (⟨#[]⟩ : ByteArray)]) (t := 23) ?hr ?_; (case hd => rfl); (case hg => rfl); (case hr => first | (go_simp; done) | (go_simp; rfl)); intro gb317 hg w47 hbox hb; have n0_ := Aside0.mk (below_step (by repeat (first | (with_reducible first | exact HB.out | apply below_alloc | apply pw_below_drewN | apply below_drew1) | exact HB.out)) hb); have n1_ := Aside0.mk (hbox); have n2_ := Aside0.mk ((by rw [hg]; exact (below_size (by repeat (first | (with_reducible first | exact HB.out | apply below_alloc | apply pw_below_drewN | apply below_drew1) | exact HB.out))) : w.heap.size ≤ gb317)); have n3_ := Aside0.mk ((by rw [hg]; exact (below_size (by repeat (first | (with_reducible first | exact HB.out | apply below_alloc | apply pw_below_drewN | apply below_drew1) | exact HB.out))) : w.heap.size ≤ gb317)); clear HB; have HB := n0_; have BK317 := n1_; have GW317 := n2_; have GE317 := n3_; clear n0_ n1_ n2_ n3_; clear hb hbox hg; have hcz48_0 : w47.cell? ⟨gb317, 0, none⟩ = some (.string (⟨#[]⟩ : ByteArray)) := (blk_cell BK317.out 0).trans rfl; have hcz48_1 : w47.cell? ⟨gb317, 1, none⟩ = some (.int .i64 0) := (blk_cell BK317.out 1).trans rfl; have hcz48_2 : w47.cell? ⟨gb317, 2, none⟩ = some (.int .i64 0) := (blk_cell BK317.out 2).trans rfl; have hcz48_3 : w47.cell? ⟨gb317, 3, none⟩ = some (.int .i64 0) := (blk_cell BK317.out 3).trans rfl; have hcz48_4 : w47.cell? ⟨gb317, 4, none⟩ = some (.int .i64 0) := (blk_cell BK317.out 4).trans rfl; have hcz48_5 : w47.cell? ⟨gb317, 5, none⟩ = some (.int .i64 0) := (blk_cell BK317.out 5).trans rfl; have hcz48_6 : w47.cell? ⟨gb317, 6, none⟩ = some (.int .i64 0) := (blk_cell BK317.out 6).trans rfl; have hcz48_7 : w47.cell? ⟨gb317, 7, none⟩ = some (.string (⟨#[]⟩ : ByteArray)) := (blk_cell BK317.out 7).trans rfl; have hfz48_0 := blk_frozen BK317.out 0; have hfz48_1 := blk_frozen BK317.out 1; have hfz48_2 := blk_frozen BK317.out 2; have hfz48_3 := blk_frozen BK317.out 3; have hfz48_4 := blk_frozen BK317.out 4; have hfz48_5 := blk_frozen BK317.out 5; have hfz48_6 := blk_frozen BK317.out 6; have hfz48_7 := blk_frozen BK317.out 7) | ((with_reducible refine gate_callee (f := 16) rfl ?_); refine goesL_ (some 22) rfl rfl Try.func16 (by kernel_rfl) rfl #[.string a0] rfl (by (try simp only [List.map_toArray, List.map_cons, List.map_nil]); first | done | rfl | (simp only [List.length_drop, List.length_take]; rfl)) ?_; (with_reducible refine (masterdiscref20_Decode.calls k a0 t318 t319 t320 t321 t322 t323 t324 t325 t326 t327 _ A7.out).mono ?_); rintro e w49 ⟨rfl, hb⟩; refine ⟨_, rfl, ?_⟩; have n0_ := Aside0.mk (blk_below (g := gb317) (o := .cells #[.string t307, .int .i64 t308, .int .i64 t309, .int .i64 t310, .int .i64 t311, .int .i64 t312, .int .i64 t313, .string t314] 23 (0, 0)) (by (with_reducible repeat (first | refine blk_drewN ?_ _ | refine blk_drew ?_ | refine blk_alloc ?_ _)); refine blk_put (cs := #[.string t307, .int .i64 t308, .int .i64 t309, .int .i64 t310, .int .i64 t311, .int .i64 t312, .int .i64 t313, .string (⟨#[]⟩ : ByteArray)]) ?_ 7 _ rfl; (with_reducible repeat (first | refine blk_drewN ?_ _ | refine blk_drew ?_ | refine blk_alloc ?_ _)); refine blk_put (cs := #[.string t307, .int .i64 t308, .int .i64 t309, .int .i64 t310, .int .i64 t311, .int .i64 t312, .int .i64 0, .string (⟨#[]⟩ : ByteArray)]) ?_ 6 _ rfl; (with_reducible repeat (first | refine blk_drewN ?_ _ | refine blk_drew ?_ | refine blk_alloc ?_ _)); refine blk_put (cs := #[.string t307, .int .i64 t308, .int .i64 t309, .int .i64 t310, .int .i64 t311, .int .i64 0, .int .i64 0, .string (⟨#[]⟩ : ByteArray)]) ?_ 5 _ rfl; (with_reducible repeat (first | refine blk_drewN ?_ _ | refine blk_drew ?_ | refine blk_alloc ?_ _)); refine blk_put (cs := #[.string t307, .int .i64 t308, .int .i64 t309, .int .i64 t310, .int .i64 0, .int .i64 0, .int .i64 0, .string (⟨#[]⟩ : ByteArray)]) ?_ 4 _ rfl; (with_reducible repeat (first | refine blk_drewN ?_ _ | refine blk_drew ?_ | refine blk_alloc ?_ _)); refine blk_put (cs := #[.string t307, .int .i64 t308, .int .i64 t309, .int .i64 0, .int .i64 0, .int .i64 0, .int .i64 0, .string (⟨#[]⟩ : ByteArray)]) ?_ 3 _ rfl; (with_reducible repeat (first | refine blk_drewN ?_ _ | refine blk_drew ?_ | refine blk_alloc ?_ _)); refine blk_put (cs := #[.string t307, .int .i64 t308, .int .i64 0, .int .i64 0, .int .i64 0, .int .i64 0, .int .i64 0, .string (⟨#[]⟩ : ByteArray)]) ?_ 2 _ rfl; (with_reducible repeat (first | refine blk_drewN ?_ _ | refine blk_drew ?_ | refine blk_alloc ?_ _)); refine blk_put (cs := #[.string t307, .int .i64 0, .int .i64 0, .int .i64 0, .int .i64 0, .int .i64 0, .int .i64 0, .string (⟨#[]⟩ : ByteArray)]) ?_ 1 _ rfl; (with_reducible repeat (first | refine blk_drewN ?_ _ | refine blk_drew ?_ | refine blk_alloc ?_ _)); refine blk_put (cs := #[.string (⟨#[]⟩ : ByteArray), .int .i64 0, .int .i64 0, .int .i64 0, .int .i64 0, .int .i64 0, .int .i64 0, .string (⟨#[]⟩ : ByteArray)]) ?_ 0 _ rfl; (with_reducible repeat (first | refine blk_drewN ?_ _ | refine blk_drew ?_ | refine blk_alloc ?_ _)); exact BK317.out) hb); have n1_ := Aside0.mk (below_step (by repeat (first | (with_reducible first | exact HB.out | apply below_alloc | apply pw_below_drewN | apply below_drew1 | refine below_set ?_ GE317.out) | exact HB.out)) hb); clear BK317; clear HB; have BK317 := n0_; have HB := n1_; clear n0_ n1_; (try clear hb); (try clear hb2); (try clear hk); (try clear hi)) | ((with_reducible refine gate_dst (N := 6) rfl ?_); refine box_event ?hg (N := 6) ?hd (cs := #[.string (⟨#[]⟩ : ByteArray), .int .i64 0, .int .i64 0, .int .i64 0, .int .i64 0, .int .i64 0, .int .i64 0, .string (⟨#[]⟩ : ByteArray)]) (t := 23) ?hr ?_; (case hd => rfl); (case hg => rfl); (case hr => first | (go_simp; done) | (go_simp; rfl)); intro gb328 hg w50 hbox hb; have n0_ := Aside0.mk (blk_below (g := gb317) (o := .cells #[.string t307, .int .i64 t308, .int .i64 t309, .int .i64 t310, .int .i64 t311, .int .i64 t312, .int .i64 t313, .string t314] 23 (0, 0)) (by (with_reducible repeat (first | refine blk_drewN ?_ _ | refine blk_drew ?_ | refine blk_alloc ?_ _)); exact BK317.out) hb); have n1_ := Aside0.mk (below_step (by repeat (first | (with_reducible first | exact HB.out | apply below_alloc | apply pw_below_drewN | apply below_drew1 | refine below_set ?_ GE317.out) | exact HB.out)) hb); have n2_ := Aside0.mk (hbox); have n3_ := Aside0.mk ((by rw [hg]; exact (below_size (by repeat (first | (with_reducible first | exact HB.out | apply below_alloc | apply pw_below_drewN | apply below_drew1 | refine below_set ?_ GE317.out) | exact HB.out))) : w.heap.size ≤ gb328)); have n4_ := Aside0.mk ((by rw [hg]; exact (below_size (by repeat (first | (with_reducible first | exact HB.out | apply below_alloc | apply pw_below_drewN | apply below_drew1 | refine below_set ?_ GE317.out) | exact HB.out))) : w.heap.size ≤ gb328)); have n5_ := Aside0.mk ((by rw [hg]; exact Nat.ne_of_lt (blk_lt (g := gb317) (o := .cells #[.string t307, .int .i64 t308, .int .i64 t309, .int .i64 t310, .int .i64 t311, .int .i64 t312, .int .i64 t313, .string t314] 23 (0, 0)) (by (with_reducible repeat (first | refine blk_drewN ?_ _ | refine blk_drew ?_ | refine blk_alloc ?_ _)); exact BK317.out)) : gb317 ≠ gb328)); have n6_ := Aside0.mk ((by rw [hg]; exact Nat.ne_of_gt (blk_lt (g := gb317) (o := .cells #[.string t307, .int .i64 t308, .int .i64 t309, .int .i64 t310, .int .i64 t311, .int .i64 t312, .int .i64 t313, .string t314] 23 (0, 0)) (by (with_reducible repeat (first | refine blk_drewN ?_ _ | refine blk_drew ?_ | refine blk_alloc ?_ _)); exact BK317.out)) : gb328 ≠ gb317)); clear BK317; clear HB; have BK317 := n0_; have HB := n1_; have BK328 := n2_; have GW328 := n3_; have GE328 := n4_; have NB317_328 := n5_; have NB328_317 := n6_; clear n0_ n1_ n2_ n3_ n4_ n5_ n6_; clear hb hbox hg; have hnb51 := NB328_317.out; have hnc51 := NB317_328.out; have hcz52_0 : w50.cell? ⟨gb328, 0, none⟩ = some (.string (⟨#[]⟩ : ByteArray)) := (blk_cell BK328.out 0).trans rfl; have hcz52_1 : w50.cell? ⟨gb328, 1, none⟩ = some (.int .i64 0) := (blk_cell BK328.out 1).trans rfl; have hcz52_2 : w50.cell? ⟨gb328, 2, none⟩ = some (.int .i64 0) := (blk_cell BK328.out 2).trans rfl; have hcz52_3 : w50.cell? ⟨gb328, 3, none⟩ = some (.int .i64 0) := (blk_cell BK328.out 3).trans rfl; have hcz52_4 : w50.cell? ⟨gb328, 4, none⟩ = some (.int .i64 0) := (blk_cell BK328.out 4).trans rfl; have hcz52_5 : w50.cell? ⟨gb328, 5, none⟩ = some (.int .i64 0) := (blk_cell BK328.out 5).trans rfl; have hcz52_6 : w50.cell? ⟨gb328, 6, none⟩ = some (.int .i64 0) := (blk_cell BK328.out 6).trans rfl; have hcz52_7 : w50.cell? ⟨gb328, 7, none⟩ = some (.string (⟨#[]⟩ : ByteArray)) := (blk_cell BK328.out 7).trans rfl; have hfz52_0 := blk_frozen BK328.out 0; have hfz52_1 := blk_frozen BK328.out 1; have hfz52_2 := blk_frozen BK328.out 2; have hfz52_3 := blk_frozen BK328.out 3; have hfz52_4 := blk_frozen BK328.out 4; have hfz52_5 := blk_frozen BK328.out 5; have hfz52_6 := blk_frozen BK328.out 6; have hfz52_7 := blk_frozen BK328.out 7; have hcz53_0 : w50.cell? ⟨gb317, 0, none⟩ = some (.string t307) := (blk_cell BK317.out 0).trans rfl; have hcz53_1 : w50.cell? ⟨gb317, 1, none⟩ = some (.int .i64 t308) := (blk_cell BK317.out 1).trans rfl; have hcz53_2 : w50.cell? ⟨gb317, 2, none⟩ = some (.int .i64 t309) := (blk_cell BK317.out 2).trans rfl; have hcz53_3 : w50.cell? ⟨gb317, 3, none⟩ = some (.int .i64 t310) := (blk_cell BK317.out 3).trans rfl; have hcz53_4 : w50.cell? ⟨gb317, 4, none⟩ = some (.int .i64 t311) := (blk_cell BK317.out 4).trans rfl; have hcz53_5 : w50.cell? ⟨gb317, 5, none⟩ = some (.int .i64 t312) := (blk_cell BK317.out 5).trans rfl; have hcz53_6 : w50.cell? ⟨gb317, 6, none⟩ = some (.int .i64 t313) := (blk_cell BK317.out 6).trans rfl; have hcz53_7 : w50.cell? ⟨gb317, 7, none⟩ = some (.string t314) := (blk_cell BK317.out 7).trans rfl; have hfz53_0 := blk_frozen BK317.out 0; have hfz53_1 := blk_frozen BK317.out 1; have hfz53_2 := blk_frozen BK317.out 2; have hfz53_3 := blk_frozen BK317.out 3; have hfz53_4 := blk_frozen BK317.out 4; have hfz53_5 := blk_frozen BK317.out 5; have hfz53_6 := blk_frozen BK317.out 6; have hfz53_7 := blk_frozen BK317.out 7))
        go_ret
        exact ⟨by first | rfl | (simp [errW_none, errW_some] <;> rfl) | (simp [*, errW_none, errW_some] <;> rfl), by repeat (first | (with_reducible first | exact HB.out | apply below_alloc | apply pw_below_drewN | apply below_drew1 | refine below_set ?_ GE317.out | refine below_set ?_ GE328.out) | exact HB.out)⟩
  · replace c3 := Bool.eq_false_iff.mpr c3
    subst c3
    have H1 : (some false) = some r := by rw [if_neg (show ¬ (false = true) by decide)] at H; exact H
    clear H
    have H := H1
    clear H1
    obtain rfl := Option.some.inj H
    go_enter Try.func4, Try.ntmps4
    go_wp2_with (first | ((with_reducible refine gate_callee (f := 10) rfl ?_); refine goesL_ (some 9) rfl rfl Try.func10 (by kernel_rfl) rfl #[] rfl (by (try simp only [List.map_toArray, List.map_cons, List.map_nil]); first | done | rfl | (simp only [List.length_drop, List.length_take]; rfl)) ?_; (with_reducible refine (masterdisclaw20_awake.calls  false _ A2.out).mono ?_); rintro e w54 ⟨rfl, hb⟩; refine ⟨_, rfl, ?_⟩; have n0_ := Aside0.mk (below_step (by repeat (first | (with_reducible first | exact HB.out | apply below_alloc | apply pw_below_drewN | apply below_drew1) | exact HB.out)) hb); clear HB; have HB := n0_; clear n0_; (try clear hb); (try clear hb2); (try clear hk); (try clear hi)))
    go_ret
    exact ⟨by first | rfl | (simp [errW_none, errW_some] <;> rfl) | (simp [*, errW_none, errW_some] <;> rfl), by repeat (first | (with_reducible first | exact HB.out | apply below_alloc | apply pw_below_drewN | apply below_drew1) | exact HB.out)⟩

end Go.Proofs.Ytagnefbgclpccaa.A
