-- Written by a program of this session's, hprint.py, out of the translation. Not trusted: Lean checks it.
import Derived.Test.YthblghfobnhoeaaGreatKe7e6dfb4
import Derived.Test.YthblghfobnhoeaaGreatK34bd3b12
import Derived.Test.YthblghfobnhoeaaGreatKeb91b463
namespace Go.Proofs.YthblghfobnhoeaaGreat.A
open Go.RowKit Go.Proofs.YthblghfobnhoeaaGreat.H Go.Proofs.YthblghfobnhoeaaGreatW.PrintWords Go.Proofs.YthblghfobnhoeaaGreatW.PrintLast Go.Proofs.YthblghfobnhoeaaGreatW.PrintMore
attribute [local go_sem] max2_int min2_int max_two min_two max_three min_three max_four min_four   -- for this text's walks alone
set_option linter.unusedVariables false
set_option linter.unusedSimpArgs false

attribute [local go_sem high] eqA45
/-! ### directory_Compare: function 11 -/
def directory_Compare.j0 : Nat → ByteArray → ByteArray → Bool → Int → Bool → Option (Int)
 | 0, _, _, _, _, _ => none
 | k + 1, x0, x1, x2, x7, x28 => if x28 = true then (some x7) else (if x2 = true then ((directory_behind.f x0 x1 0).bind fun t123 => (some t123)) else ((directory_parts.f x0).bind fun bt124 => ((directory_parts.f x1).bind fun bt127 => ((directory_behind.f bt124.1 bt127.1 32).bind fun t130 => ((directory_behind.f bt124.2.1 bt127.2.1 32).bind fun t131 => ((cmp_Or_int.f k (([t130, t131] : List Int))).bind fun t135 => (if t135 = 0 then ((strings_Repeat.f (⟨#[48]⟩ : ByteArray) (mx (bt124.2.2.size : Int) (bt127.2.2.size : Int))).bind fun t136 => (if 0 ≤ (bt127.2.2.size : Int) then (if (bt127.2.2.size : Int) ≤ (t136.size : Int) then (if (t136.extract ((bt127.2.2.size : Int) : Int).toNat t136.size).size + bt127.2.2.size ≤ 9223372036854775807 then (if 0 ≤ (bt124.2.2.size : Int) then (if (bt124.2.2.size : Int) ≤ (t136.size : Int) then (if (t136.extract ((bt124.2.2.size : Int) : Int).toNat t136.size).size + bt124.2.2.size ≤ 9223372036854775807 then ((strings_Compare.f ((t136.extract ((bt127.2.2.size : Int) : Int).toNat t136.size) ++ bt127.2.2) ((t136.extract ((bt124.2.2.size : Int) : Int).toNat t136.size) ++ bt124.2.2)).bind fun t137 => (some t137)) else (none)) else (none)) else (none)) else (none)) else (none)) else (none))) else (some t135))))))))
def directory_Compare.f (k : Nat) (a0 : ByteArray) (a1 : ByteArray) (a2 : Bool) : Option (Int) := (directory_rank.f a0).bind fun t119 => ((directory_rank.f a1).bind fun t120 => ((cmp_Compare_int.f t119 t120).bind fun t121 => (if t121 = 0 then ((directory_rank.f a0).bind fun t122 => (directory_Compare.j0 k a0 a1 a2 t121 (decide (t122 < 2)))) else (directory_Compare.j0 k a0 a1 a2 t121 true))))
theorem directory_Compare.mono_l : ∀ k, (∀ y0 y1 y2 y3 y4, LeO (directory_Compare.j0 k y0 y1 y2 y3 y4) (directory_Compare.j0 (k + 1) y0 y1 y2 y3 y4))
 | 0 => fun _ _ _ _ _ r h => by simp [directory_Compare.j0] at h
 | k + 1 => by
  have ih0 := directory_Compare.mono_l k
  ·intro y0 y1 y2 y3 y4
   unfold directory_Compare.j0
   repeat' first
   | (with_reducible exact ih0 _ _ _ _ _)
   | (with_reducible exact cmp_Or_int.mono _ _)
   | (with_reducible exact LeO.refl _)
   | (with_reducible exact LeO.none _)
   | (with_reducible refine LeO.ite ?_ ?_)
   | (with_reducible refine LeO.bind ?_ (fun _ => ?_))
   | exact ih0 _ _ _ _ _
   | exact cmp_Or_int.mono _ _
   | exact LeO.none _
   | refine LeO.ite ?_ ?_
   | refine LeO.bind ?_ (fun _ => ?_)
theorem directory_Compare.mono : ∀ a0 a1 a2 k, LeO (directory_Compare.f k a0 a1 a2) (directory_Compare.f (k + 1) a0 a1 a2) := by
 intro a0 a1 a2 k
 have ih0 := directory_Compare.mono_l k
 unfold directory_Compare.f
 repeat' first
   | (with_reducible exact ih0 _ _ _ _ _)
   | (with_reducible exact cmp_Or_int.mono _ _)
   | (with_reducible exact LeO.refl _)
   | (with_reducible exact LeO.none _)
   | (with_reducible refine LeO.ite ?_ ?_)
   | (with_reducible refine LeO.bind ?_ (fun _ => ?_))
   | exact ih0 _ _ _ _ _
   | exact cmp_Or_int.mono _ _
   | exact LeO.none _
   | refine LeO.ite ?_ ?_
   | refine LeO.bind ?_ (fun _ => ?_)
set_option maxHeartbeats 8000000 in
set_option maxRecDepth 100000 in
theorem directory_Compare.calls (k : Nat) (a0 : ByteArray) (a1 : ByteArray) (a2 : Bool) (r : Int) (w : World) (h : directory_Compare.f k a0 a1 a2 = some r) :
  Calls Tryz.prog 11 #[.string a0, .string a1, .bool a2] w fun e w' => e = .returned (.int .i64 r) ∧ Below w.heap.size w w' := by
 have HB := Aside0.mk (Below.refl w.heap.size w)
 have H : ((directory_rank.f a0).bind fun t119 => ((directory_rank.f a1).bind fun t120 => ((cmp_Compare_int.f t119 t120).bind fun t121 => (if t121 = 0 then ((directory_rank.f a0).bind fun t122 => (directory_Compare.j0 k a0 a1 a2 t121 (decide (t122 < 2)))) else (directory_Compare.j0 k a0 a1 a2 t121 true))))) = some r := h
 clear h
 replace H := Option.bind_eq_some_iff.mp H
 obtain ⟨t119, A40, H⟩ := H
 replace H : ((directory_rank.f a1).bind fun t120 => ((cmp_Compare_int.f t119 t120).bind fun t121 => (if t121 = 0 then ((directory_rank.f a0).bind fun t122 => (directory_Compare.j0 k a0 a1 a2 t121 (decide (t122 < 2)))) else (directory_Compare.j0 k a0 a1 a2 t121 true)))) = some r := H
 have A4 := Aside0.mk A40
 clear A40
 replace H := Option.bind_eq_some_iff.mp H
 obtain ⟨t120, A50, H⟩ := H
 replace H : ((cmp_Compare_int.f t119 t120).bind fun t121 => (if t121 = 0 then ((directory_rank.f a0).bind fun t122 => (directory_Compare.j0 k a0 a1 a2 t121 (decide (t122 < 2)))) else (directory_Compare.j0 k a0 a1 a2 t121 true))) = some r := H
 have A5 := Aside0.mk A50
 clear A50
 replace H := Option.bind_eq_some_iff.mp H
 obtain ⟨t121, A60, H⟩ := H
 replace H : (if t121 = 0 then ((directory_rank.f a0).bind fun t122 => (directory_Compare.j0 k a0 a1 a2 t121 (decide (t122 < 2)))) else (directory_Compare.j0 k a0 a1 a2 t121 true)) = some r := H
 have A6 := Aside0.mk A60
 clear A60
 have HC7 := Aside0.mk H
 clear H
 go_enter Tryz.func11, Tryz.ntmps11
 go_upto_region 2 with (first | (go_at_call 33; (with_reducible refine (directory_rank.calls a0 t119 _ A4.out).mono ?_); rintro e w' ⟨rfl, ⟨nd, rfl⟩⟩; (try first | exact ⟨rfl, _, World.drewN_drewN _ _ _⟩ | exact ⟨rfl, _, Eq.trans (World.drewN_drewN _ _ _) (congrArg (World.drewN _) (Nat.add_assoc _ _ _))⟩)) | (go_at_call 33; (with_reducible refine (directory_rank.calls a1 t120 _ A5.out).mono ?_); rintro e w' ⟨rfl, ⟨nd, rfl⟩⟩; (try first | exact ⟨rfl, _, World.drewN_drewN _ _ _⟩ | exact ⟨rfl, _, Eq.trans (World.drewN_drewN _ _ _) (congrArg (World.drewN _) (Nat.add_assoc _ _ _))⟩)) | (go_at_call 32; (with_reducible refine (cmp_Compare_int.calls t119 t120 t121 _ A6.out).mono ?_); rintro e w' ⟨rfl, ⟨nd, rfl⟩⟩; (try first | exact ⟨rfl, _, World.drewN_drewN _ _ _⟩ | exact ⟨rfl, _, Eq.trans (World.drewN_drewN _ _ _) (congrArg (World.drewN _) (Nat.add_assoc _ _ _))⟩)))
 repeat (go_quiet (first | (go_at_call 33; (with_reducible refine (directory_rank.calls a0 t119 _ A4.out).mono ?_); rintro e w' ⟨rfl, ⟨nd, rfl⟩⟩; (try first | exact ⟨rfl, _, World.drewN_drewN _ _ _⟩ | exact ⟨rfl, _, Eq.trans (World.drewN_drewN _ _ _) (congrArg (World.drewN _) (Nat.add_assoc _ _ _))⟩)) | (go_at_call 33; (with_reducible refine (directory_rank.calls a1 t120 _ A5.out).mono ?_); rintro e w' ⟨rfl, ⟨nd, rfl⟩⟩; (try first | exact ⟨rfl, _, World.drewN_drewN _ _ _⟩ | exact ⟨rfl, _, Eq.trans (World.drewN_drewN _ _ _) (congrArg (World.drewN _) (Nat.add_assoc _ _ _))⟩)) | (go_at_call 32; (with_reducible refine (cmp_Compare_int.calls t119 t120 t121 _ A6.out).mono ?_); rintro e w' ⟨rfl, ⟨nd, rfl⟩⟩; (try first | exact ⟨rfl, _, World.drewN_drewN _ _ _⟩ | exact ⟨rfl, _, Eq.trans (World.drewN_drewN _ _ _) (congrArg (World.drewN _) (Nat.add_assoc _ _ _))⟩))); go_upto_region 2 with (first | (go_at_call 33; (with_reducible refine (directory_rank.calls a0 t119 _ A4.out).mono ?_); rintro e w' ⟨rfl, ⟨nd, rfl⟩⟩; (try first | exact ⟨rfl, _, World.drewN_drewN _ _ _⟩ | exact ⟨rfl, _, Eq.trans (World.drewN_drewN _ _ _) (congrArg (World.drewN _) (Nat.add_assoc _ _ _))⟩)) | (go_at_call 33; (with_reducible refine (directory_rank.calls a1 t120 _ A5.out).mono ?_); rintro e w' ⟨rfl, ⟨nd, rfl⟩⟩; (try first | exact ⟨rfl, _, World.drewN_drewN _ _ _⟩ | exact ⟨rfl, _, Eq.trans (World.drewN_drewN _ _ _) (congrArg (World.drewN _) (Nat.add_assoc _ _ _))⟩)) | (go_at_call 32; (with_reducible refine (cmp_Compare_int.calls t119 t120 t121 _ A6.out).mono ?_); rintro e w' ⟨rfl, ⟨nd, rfl⟩⟩; (try first | exact ⟨rfl, _, World.drewN_drewN _ _ _⟩ | exact ⟨rfl, _, Eq.trans (World.drewN_drewN _ _ _) (congrArg (World.drewN _) (Nat.add_assoc _ _ _))⟩))))
 (try simp only [Act.put, List.setIfInBounds_toArray, List.set_cons_zero, List.set_cons_succ])
 go_cut [28] (fun v28 wc => ∃ (kq : Nat) (x28_6 : Bool), v28 = .bool x28_6 ∧ Aside0 (directory_Compare.j0 kq a0 a1 a2 t121 x28_6 = some r) ∧ Aside0 (kq ≤ k) ∧ Aside0 (Below w.heap.size w wc))
 case first =>
  have H := HC7.out
  clear HC7
  by_cases c8 : t121 = 0
  ·rw [if_pos c8] at H
   have c8b0 : (t121 == 0) = true := beq_iff_eq.mpr c8
   have c8b1 : (t121 != 0) = false := bne_eq_false_iff_eq.mpr c8
   clear c8
   (first | rw [c8b0] | (simp only [i64_w, i32_w]; rw [c8b0]) | skip)
   replace H := Option.bind_eq_some_iff.mp H
   obtain ⟨t122, A90, H⟩ := H
   replace H : (directory_Compare.j0 k a0 a1 a2 t121 (decide (t122 < 2))) = some r := H
   have A9 := Aside0.mk A90
   clear A90
   have H' := Aside0.mk H
   clear H
   go_wp2_with (first | (go_at_call 33; (with_reducible refine (directory_rank.calls a0 t122 _ A9.out).mono ?_); rintro e w' ⟨rfl, ⟨nd, rfl⟩⟩; (try first | exact ⟨rfl, _, World.drewN_drewN _ _ _⟩ | exact ⟨rfl, _, Eq.trans (World.drewN_drewN _ _ _) (congrArg (World.drewN _) (Nat.add_assoc _ _ _))⟩)))
   repeat (go_quiet (first | (go_at_call 33; (with_reducible refine (directory_rank.calls a0 t122 _ A9.out).mono ?_); rintro e w' ⟨rfl, ⟨nd, rfl⟩⟩; (try first | exact ⟨rfl, _, World.drewN_drewN _ _ _⟩ | exact ⟨rfl, _, Eq.trans (World.drewN_drewN _ _ _) (congrArg (World.drewN _) (Nat.add_assoc _ _ _))⟩))); try go_wp2_with (first | (go_at_call 33; (with_reducible refine (directory_rank.calls a0 t122 _ A9.out).mono ?_); rintro e w' ⟨rfl, ⟨nd, rfl⟩⟩; (try first | exact ⟨rfl, _, World.drewN_drewN _ _ _⟩ | exact ⟨rfl, _, Eq.trans (World.drewN_drewN _ _ _) (congrArg (World.drewN _) (Nat.add_assoc _ _ _))⟩))))
   go_meet
   case rel => exact ⟨_, (decide (t122 < 2)), (by first | rfl | (simp; done) | (simp [*]; done)), H', ⟨by first | omega | exact Nat.le_refl _⟩, ⟨uB HB.out⟩⟩
  ·rw [if_neg c8] at H
   have c8b0 : (t121 == 0) = false := beq_eq_false_iff_ne.mpr c8
   have c8b1 : (t121 != 0) = true := bne_iff_ne.mpr c8
   (first | rw [c8b0] | (simp only [i64_w, i32_w]; rw [c8b0]) | skip)
   have H' := Aside0.mk H
   clear H
   go_wp2
   repeat (go_quiet (fail); try go_wp2)
   go_meet
   case rel => exact ⟨_, (true), (by first | rfl | (simp; done) | (simp [*]; done)), H', ⟨by first | omega | exact Nat.le_refl _⟩, ⟨uB HB.out⟩⟩
 case rest =>
  clear HC7
  try clear c1
  try clear p2
  try clear c8
  try clear c8b0
  try clear c8b1
  obtain ⟨kq, x28_6, rfl, HA, HJ6, HB⟩ := hcut
  cases kq with
  | zero => exact absurd HA.out (by simp [directory_Compare.j0])
  | succ kj6 =>
   have H := HA.out
   clear HA
   simp only [directory_Compare.j0] at H
   by_cases c10 : x28_6 = true
   ·subst c10
    have H1 : (some t121) = some r := by rw [if_pos rfl] at H; exact H
    clear H
    have H := H1
    clear H1
    obtain rfl := Option.some.inj H
    go_wp2
    repeat (go_quiet (fail); try go_wp2)
    go_ret
    exact ⟨by first | rfl | (simp [errW_none, errW_some] <;> rfl) | (simp [*, errW_none, errW_some] <;> rfl), uB HB.out⟩
   ·replace c10 := Bool.eq_false_iff.mpr c10
    subst c10
    have H1 : (if a2 = true then ((directory_behind.f a0 a1 0).bind fun t123 => (some t123)) else ((directory_parts.f a0).bind fun bt124 => ((directory_parts.f a1).bind fun bt127 => ((directory_behind.f bt124.1 bt127.1 32).bind fun t130 => ((directory_behind.f bt124.2.1 bt127.2.1 32).bind fun t131 => ((cmp_Or_int.f kj6 (([t130, t131] : List Int))).bind fun t135 => (if t135 = 0 then ((strings_Repeat.f (⟨#[48]⟩ : ByteArray) (mx (bt124.2.2.size : Int) (bt127.2.2.size : Int))).bind fun t136 => (if 0 ≤ (bt127.2.2.size : Int) then (if (bt127.2.2.size : Int) ≤ (t136.size : Int) then (if (t136.extract ((bt127.2.2.size : Int) : Int).toNat t136.size).size + bt127.2.2.size ≤ 9223372036854775807 then (if 0 ≤ (bt124.2.2.size : Int) then (if (bt124.2.2.size : Int) ≤ (t136.size : Int) then (if (t136.extract ((bt124.2.2.size : Int) : Int).toNat t136.size).size + bt124.2.2.size ≤ 9223372036854775807 then ((strings_Compare.f ((t136.extract ((bt127.2.2.size : Int) : Int).toNat t136.size) ++ bt127.2.2) ((t136.extract ((bt124.2.2.size : Int) : Int).toNat t136.size) ++ bt124.2.2)).bind fun t137 => (some t137)) else (none)) else (none)) else (none)) else (none)) else (none)) else (none))) else (some t135)))))))) = some r := by rw [if_neg (show ¬ (false = true) by decide)] at H; exact H
    clear H
    have H := H1
    clear H1
    by_cases c11 : a2 = true
    ·subst c11
     have H1 : ((directory_behind.f a0 a1 0).bind fun t123 => (some t123)) = some r := by rw [if_pos rfl] at H; exact H
     clear H
     have H := H1
     clear H1
     replace H := Option.bind_eq_some_iff.mp H
     obtain ⟨t123, A120, H⟩ := H
     replace H : (some t123) = some r := H
     have A12 := Aside0.mk A120
     clear A120
     obtain rfl := Option.some.inj H
     go_wp2_with (first | (go_at_call 34; (with_reducible refine (directory_behind.calls a0 a1 0 t123 _ A12.out).mono ?_); rintro e w13 ⟨rfl, hb⟩; have n0_ := Aside0.mk (below_step (uB HB.out) hb); clear HB; have HB := n0_; clear n0_; (try clear hb); (try clear hb2); (try clear hk); (try clear hi)))
     repeat (go_quiet (first | (go_at_call 34; (with_reducible refine (directory_behind.calls a0 a1 0 t123 _ A12.out).mono ?_); rintro e w13 ⟨rfl, hb⟩; have n0_ := Aside0.mk (below_step (uB HB.out) hb); clear HB; have HB := n0_; clear n0_; (try clear hb); (try clear hb2); (try clear hk); (try clear hi))); try go_wp2_with (first | (go_at_call 34; (with_reducible refine (directory_behind.calls a0 a1 0 t123 _ A12.out).mono ?_); rintro e w13 ⟨rfl, hb⟩; have n0_ := Aside0.mk (below_step (uB HB.out) hb); clear HB; have HB := n0_; clear n0_; (try clear hb); (try clear hb2); (try clear hk); (try clear hi))))
     go_ret
     exact ⟨by first | rfl | (simp [errW_none, errW_some] <;> rfl) | (simp [*, errW_none, errW_some] <;> rfl), uB HB.out⟩
    ·replace c11 := Bool.eq_false_iff.mpr c11
     subst c11
     have H1 : ((directory_parts.f a0).bind fun bt124 => ((directory_parts.f a1).bind fun bt127 => ((directory_behind.f bt124.1 bt127.1 32).bind fun t130 => ((directory_behind.f bt124.2.1 bt127.2.1 32).bind fun t131 => ((cmp_Or_int.f kj6 (([t130, t131] : List Int))).bind fun t135 => (if t135 = 0 then ((strings_Repeat.f (⟨#[48]⟩ : ByteArray) (mx (bt124.2.2.size : Int) (bt127.2.2.size : Int))).bind fun t136 => (if 0 ≤ (bt127.2.2.size : Int) then (if (bt127.2.2.size : Int) ≤ (t136.size : Int) then (if (t136.extract ((bt127.2.2.size : Int) : Int).toNat t136.size).size + bt127.2.2.size ≤ 9223372036854775807 then (if 0 ≤ (bt124.2.2.size : Int) then (if (bt124.2.2.size : Int) ≤ (t136.size : Int) then (if (t136.extract ((bt124.2.2.size : Int) : Int).toNat t136.size).size + bt124.2.2.size ≤ 9223372036854775807 then ((strings_Compare.f ((t136.extract ((bt127.2.2.size : Int) : Int).toNat t136.size) ++ bt127.2.2) ((t136.extract ((bt124.2.2.size : Int) : Int).toNat t136.size) ++ bt124.2.2)).bind fun t137 => (some t137)) else (none)) else (none)) else (none)) else (none)) else (none)) else (none))) else (some t135))))))) = some r := by rw [if_neg (show ¬ (false = true) by decide)] at H; exact H
     clear H
     have H := H1
     clear H1
     replace H := Option.bind_eq_some_iff.mp H
     obtain ⟨⟨t124, t125, t126⟩, A140, H⟩ := H
     replace H : ((directory_parts.f a1).bind fun bt127 => ((directory_behind.f t124 bt127.1 32).bind fun t130 => ((directory_behind.f t125 bt127.2.1 32).bind fun t131 => ((cmp_Or_int.f kj6 (([t130, t131] : List Int))).bind fun t135 => (if t135 = 0 then ((strings_Repeat.f (⟨#[48]⟩ : ByteArray) (mx (t126.size : Int) (bt127.2.2.size : Int))).bind fun t136 => (if 0 ≤ (bt127.2.2.size : Int) then (if (bt127.2.2.size : Int) ≤ (t136.size : Int) then (if (t136.extract ((bt127.2.2.size : Int) : Int).toNat t136.size).size + bt127.2.2.size ≤ 9223372036854775807 then (if 0 ≤ (t126.size : Int) then (if (t126.size : Int) ≤ (t136.size : Int) then (if (t136.extract ((t126.size : Int) : Int).toNat t136.size).size + t126.size ≤ 9223372036854775807 then ((strings_Compare.f ((t136.extract ((bt127.2.2.size : Int) : Int).toNat t136.size) ++ bt127.2.2) ((t136.extract ((t126.size : Int) : Int).toNat t136.size) ++ t126)).bind fun t137 => (some t137)) else (none)) else (none)) else (none)) else (none)) else (none)) else (none))) else (some t135)))))) = some r := H
     have A14 := Aside0.mk A140
     clear A140
     replace H := Option.bind_eq_some_iff.mp H
     obtain ⟨⟨t127, t128, t129⟩, A150, H⟩ := H
     replace H : ((directory_behind.f t124 t127 32).bind fun t130 => ((directory_behind.f t125 t128 32).bind fun t131 => ((cmp_Or_int.f kj6 (([t130, t131] : List Int))).bind fun t135 => (if t135 = 0 then ((strings_Repeat.f (⟨#[48]⟩ : ByteArray) (mx (t126.size : Int) (t129.size : Int))).bind fun t136 => (if 0 ≤ (t129.size : Int) then (if (t129.size : Int) ≤ (t136.size : Int) then (if (t136.extract ((t129.size : Int) : Int).toNat t136.size).size + t129.size ≤ 9223372036854775807 then (if 0 ≤ (t126.size : Int) then (if (t126.size : Int) ≤ (t136.size : Int) then (if (t136.extract ((t126.size : Int) : Int).toNat t136.size).size + t126.size ≤ 9223372036854775807 then ((strings_Compare.f ((t136.extract ((t129.size : Int) : Int).toNat t136.size) ++ t129) ((t136.extract ((t126.size : Int) : Int).toNat t136.size) ++ t126)).bind fun t137 => (some t137)) else (none)) else (none)) else (none)) else (none)) else (none)) else (none))) else (some t135))))) = some r := H
     have A15 := Aside0.mk A150
     clear A150
     replace H := Option.bind_eq_some_iff.mp H
     obtain ⟨t130, A160, H⟩ := H
     replace H : ((directory_behind.f t125 t128 32).bind fun t131 => ((cmp_Or_int.f kj6 (([t130, t131] : List Int))).bind fun t135 => (if t135 = 0 then ((strings_Repeat.f (⟨#[48]⟩ : ByteArray) (mx (t126.size : Int) (t129.size : Int))).bind fun t136 => (if 0 ≤ (t129.size : Int) then (if (t129.size : Int) ≤ (t136.size : Int) then (if (t136.extract ((t129.size : Int) : Int).toNat t136.size).size + t129.size ≤ 9223372036854775807 then (if 0 ≤ (t126.size : Int) then (if (t126.size : Int) ≤ (t136.size : Int) then (if (t136.extract ((t126.size : Int) : Int).toNat t136.size).size + t126.size ≤ 9223372036854775807 then ((strings_Compare.f ((t136.extract ((t129.size : Int) : Int).toNat t136.size) ++ t129) ((t136.extract ((t126.size : Int) : Int).toNat t136.size) ++ t126)).bind fun t137 => (some t137)) else (none)) else (none)) else (none)) else (none)) else (none)) else (none))) else (some t135)))) = some r := H
     have A16 := Aside0.mk A160
     clear A160
     replace H := Option.bind_eq_some_iff.mp H
     obtain ⟨t131, A170, H⟩ := H
     replace H : ((cmp_Or_int.f kj6 (([t130, t131] : List Int))).bind fun t135 => (if t135 = 0 then ((strings_Repeat.f (⟨#[48]⟩ : ByteArray) (mx (t126.size : Int) (t129.size : Int))).bind fun t136 => (if 0 ≤ (t129.size : Int) then (if (t129.size : Int) ≤ (t136.size : Int) then (if (t136.extract ((t129.size : Int) : Int).toNat t136.size).size + t129.size ≤ 9223372036854775807 then (if 0 ≤ (t126.size : Int) then (if (t126.size : Int) ≤ (t136.size : Int) then (if (t136.extract ((t126.size : Int) : Int).toNat t136.size).size + t126.size ≤ 9223372036854775807 then ((strings_Compare.f ((t136.extract ((t129.size : Int) : Int).toNat t136.size) ++ t129) ((t136.extract ((t126.size : Int) : Int).toNat t136.size) ++ t126)).bind fun t137 => (some t137)) else (none)) else (none)) else (none)) else (none)) else (none)) else (none))) else (some t135))) = some r := H
     have A17 := Aside0.mk A170
     clear A170
     obtain ⟨y132, hy132⟩ : ∃ y_ : List Int, y_ = (([t130, t131] : List Int)) := ⟨_, rfl⟩
     replace H : ((cmp_Or_int.f kj6 y132).bind fun t135 => (if t135 = 0 then ((strings_Repeat.f (⟨#[48]⟩ : ByteArray) (mx (t126.size : Int) (t129.size : Int))).bind fun t136 => (if 0 ≤ (t129.size : Int) then (if (t129.size : Int) ≤ (t136.size : Int) then (if (t136.extract ((t129.size : Int) : Int).toNat t136.size).size + t129.size ≤ 9223372036854775807 then (if 0 ≤ (t126.size : Int) then (if (t126.size : Int) ≤ (t136.size : Int) then (if (t136.extract ((t126.size : Int) : Int).toNat t136.size).size + t126.size ≤ 9223372036854775807 then ((strings_Compare.f ((t136.extract ((t129.size : Int) : Int).toNat t136.size) ++ t129) ((t136.extract ((t126.size : Int) : Int).toNat t136.size) ++ t126)).bind fun t137 => (some t137)) else (none)) else (none)) else (none)) else (none)) else (none)) else (none))) else (some t135))) = some r := by first | (rw [hy132]; with_reducible exact H) | (have H2_ := (Option.bind_some _ _).symm.trans H; rw [hy132]; with_reducible exact H2_) | (have H2_ := (Option.bind_some _ _).symm.trans H; with_reducible exact H2_) | with_reducible exact H | (rw [hy132]; exact H) | exact H
     have Ny132 := Aside0.mk hy132
     clear hy132
     replace H := Option.bind_eq_some_iff.mp H
     obtain ⟨t135, A180, H⟩ := H
     replace H : (if t135 = 0 then ((strings_Repeat.f (⟨#[48]⟩ : ByteArray) (mx (t126.size : Int) (t129.size : Int))).bind fun t136 => (if 0 ≤ (t129.size : Int) then (if (t129.size : Int) ≤ (t136.size : Int) then (if (t136.extract ((t129.size : Int) : Int).toNat t136.size).size + t129.size ≤ 9223372036854775807 then (if 0 ≤ (t126.size : Int) then (if (t126.size : Int) ≤ (t136.size : Int) then (if (t136.extract ((t126.size : Int) : Int).toNat t136.size).size + t126.size ≤ 9223372036854775807 then ((strings_Compare.f ((t136.extract ((t129.size : Int) : Int).toNat t136.size) ++ t129) ((t136.extract ((t126.size : Int) : Int).toNat t136.size) ++ t126)).bind fun t137 => (some t137)) else (none)) else (none)) else (none)) else (none)) else (none)) else (none))) else (some t135)) = some r := H
     have A18 := Aside0.mk A180
     clear A180
     by_cases c19 : t135 = 0
     ·rw [if_pos c19] at H
      have c19b0 : (t135 == 0) = true := beq_iff_eq.mpr c19
      have c19b1 : (t135 != 0) = false := bne_eq_false_iff_eq.mpr c19
      clear c19
      obtain ⟨ji20, hji20⟩ : ∃ j_ : Int, (mx (t126.size : Int) (t129.size : Int)) = j_ := ⟨_, rfl⟩
      replace H : ((strings_Repeat.f (⟨#[48]⟩ : ByteArray) (ji20)).bind fun t136 => (if 0 ≤ (t129.size : Int) then (if (t129.size : Int) ≤ (t136.size : Int) then (if (t136.extract ((t129.size : Int) : Int).toNat t136.size).size + t129.size ≤ 9223372036854775807 then (if 0 ≤ (t126.size : Int) then (if (t126.size : Int) ≤ (t136.size : Int) then (if (t136.extract ((t126.size : Int) : Int).toNat t136.size).size + t126.size ≤ 9223372036854775807 then ((strings_Compare.f ((t136.extract ((t129.size : Int) : Int).toNat t136.size) ++ t129) ((t136.extract ((t126.size : Int) : Int).toNat t136.size) ++ t126)).bind fun t137 => (some t137)) else (none)) else (none)) else (none)) else (none)) else (none)) else (none))) = some r := by first | (rw [hji20] at H; exact H) | (simp only [hji20] at H ⊢; exact H)
      (try rw [hji20] at A14)
      (try rw [hji20] at A15)
      (try rw [hji20] at A16)
      (try rw [hji20] at A17)
      (try rw [hji20] at A18)
      (try (have hji20l : 0 ≤ ji20 := by (rw [← hji20]; unfold mx; (repeat' split) <;> omega)))
      (try (have hji20m : 0 ≤ ji20 := by omega))
      have hji20_ : (if (t126.size : Int) < (t129.size : Int) then (t129.size : Int) else (t126.size : Int)) = ji20 := hji20
      replace H := Option.bind_eq_some_iff.mp H
      obtain ⟨t136, A210, H⟩ := H
      replace H : (if 0 ≤ (t129.size : Int) then (if (t129.size : Int) ≤ (t136.size : Int) then (if (t136.extract ((t129.size : Int) : Int).toNat t136.size).size + t129.size ≤ 9223372036854775807 then (if 0 ≤ (t126.size : Int) then (if (t126.size : Int) ≤ (t136.size : Int) then (if (t136.extract ((t126.size : Int) : Int).toNat t136.size).size + t126.size ≤ 9223372036854775807 then ((strings_Compare.f ((t136.extract ((t129.size : Int) : Int).toNat t136.size) ++ t129) ((t136.extract ((t126.size : Int) : Int).toNat t136.size) ++ t126)).bind fun t137 => (some t137)) else (none)) else (none)) else (none)) else (none)) else (none)) else (none)) = some r := H
      have A21 := Aside0.mk A210
      clear A210
      by_cases c22 : 0 ≤ (t129.size : Int)
      rotate_left
      ·rw [if_neg c22] at H
       exact absurd H (by simp)
      rw [if_pos c22] at H
      have c22b0 := eq_true c22
      have c22b1 : decide (0 ≤ (t129.size : Int)) = true := decide_eq_true c22
      clear c22
      by_cases c23 : (t129.size : Int) ≤ (t136.size : Int)
      rotate_left
      ·rw [if_neg c23] at H
       exact absurd H (by simp)
      rw [if_pos c23] at H
      have c23b0 := eq_true c23
      have c23b1 : decide ((t129.size : Int) ≤ (t136.size : Int)) = true := decide_eq_true c23
      clear c23
      by_cases c24 : (t136.extract ((t129.size : Int) : Int).toNat t136.size).size + t129.size ≤ 9223372036854775807
      rotate_left
      ·rw [if_neg c24] at H
       exact absurd H (by simp)
      rw [if_pos c24] at H
      have c24b0 := eq_true c24
      have c24b1 : decide ((t136.extract ((t129.size : Int) : Int).toNat t136.size).size + t129.size ≤ 9223372036854775807) = true := decide_eq_true c24
      try have c24b2 : (9223372036854775807 < (t136.extract ((t129.size : Int) : Int).toNat t136.size).size + t129.size) = False := eq_false (Nat.not_lt.2 c24)
      have c24n0 : ((t136.extract t129.size t136.size).size + t129.size ≤ 9223372036854775807) = True := eq_true c24
      have c24n1 : decide ((t136.extract t129.size t136.size).size + t129.size ≤ 9223372036854775807) = true := decide_eq_true c24
      have c24n2 : (9223372036854775807 < (t136.extract t129.size t136.size).size + t129.size) = False := eq_false (Nat.not_lt.2 c24)
      have c24n3 : (9223372036854775807 < t136.size - t129.size + t129.size) = False := eq_false (Nat.not_lt.2 (by have h_ := c24; rw [ByteArray.size_extract] at h_; omega))
      by_cases c25 : 0 ≤ (t126.size : Int)
      rotate_left
      ·rw [if_neg c25] at H
       exact absurd H (by simp)
      rw [if_pos c25] at H
      have c25b0 := eq_true c25
      have c25b1 : decide (0 ≤ (t126.size : Int)) = true := decide_eq_true c25
      clear c25
      by_cases c26 : (t126.size : Int) ≤ (t136.size : Int)
      rotate_left
      ·rw [if_neg c26] at H
       exact absurd H (by simp)
      rw [if_pos c26] at H
      have c26b0 := eq_true c26
      have c26b1 : decide ((t126.size : Int) ≤ (t136.size : Int)) = true := decide_eq_true c26
      clear c26
      by_cases c27 : (t136.extract ((t126.size : Int) : Int).toNat t136.size).size + t126.size ≤ 9223372036854775807
      rotate_left
      ·rw [if_neg c27] at H
       exact absurd H (by simp)
      rw [if_pos c27] at H
      have c27b0 := eq_true c27
      have c27b1 : decide ((t136.extract ((t126.size : Int) : Int).toNat t136.size).size + t126.size ≤ 9223372036854775807) = true := decide_eq_true c27
      try have c27b2 : (9223372036854775807 < (t136.extract ((t126.size : Int) : Int).toNat t136.size).size + t126.size) = False := eq_false (Nat.not_lt.2 c27)
      have c27n0 : ((t136.extract t126.size t136.size).size + t126.size ≤ 9223372036854775807) = True := eq_true c27
      have c27n1 : decide ((t136.extract t126.size t136.size).size + t126.size ≤ 9223372036854775807) = true := decide_eq_true c27
      have c27n2 : (9223372036854775807 < (t136.extract t126.size t136.size).size + t126.size) = False := eq_false (Nat.not_lt.2 c27)
      have c27n3 : (9223372036854775807 < t136.size - t126.size + t126.size) = False := eq_false (Nat.not_lt.2 (by have h_ := c27; rw [ByteArray.size_extract] at h_; omega))
      replace H := Option.bind_eq_some_iff.mp H
      obtain ⟨t137, A280, H⟩ := H
      replace H : (some t137) = some r := H
      have A28 := Aside0.mk A280
      clear A280
      obtain rfl := Option.some.inj H
      go_wp2_with (first | (go_at_call 35; (with_reducible refine (directory_parts.calls a0 t124 t125 t126 _ A14.out).mono ?_); rintro e w29 ⟨rfl, hb⟩; have n0_ := Aside0.mk (below_step (uB HB.out) hb); clear HB; have HB := n0_; clear n0_; (try clear hb); (try clear hb2); (try clear hk); (try clear hi)) | (go_at_call 35; (with_reducible refine (directory_parts.calls a1 t127 t128 t129 _ A15.out).mono ?_); rintro e w30 ⟨rfl, hb⟩; have n0_ := Aside0.mk (below_step (uB HB.out) hb); clear HB; have HB := n0_; clear n0_; (try clear hb); (try clear hb2); (try clear hk); (try clear hi)) | (go_at_call 34; (with_reducible refine (directory_behind.calls t124 t127 32 t130 _ A16.out).mono ?_); rintro e w31 ⟨rfl, hb⟩; have n0_ := Aside0.mk (below_step (uB HB.out) hb); clear HB; have HB := n0_; clear n0_; (try clear hb); (try clear hb2); (try clear hk); (try clear hi)) | (go_at_call 34; (with_reducible refine (directory_behind.calls t125 t128 32 t131 _ A17.out).mono ?_); rintro e w32 ⟨rfl, hb⟩; have n0_ := Aside0.mk (below_step (uB HB.out) hb); clear HB; have HB := n0_; clear n0_; (try clear hb); (try clear hb2); (try clear hk); (try clear hi)) | ((with_reducible refine gate_dst (N := 52) rfl ?_); refine Kd.R_lit (Kd.int .i64) _ 3 ?hg (N := 52) ?hd (xs := ([t130, t131] : List Int)) (inner := [.int .i64 t130, .int .i64 t131]) (ok := fun _ => True) (okp := fun _ => True) ?hr ?hp (fun _ hk => hk) trivial (Below.refl _ _) (Nat.le_refl _) (by simp) ?_; (case hd => rfl); (case hg => rfl); (case hr => first | (go_simp; done) | (go_simp; rfl)); (case hp => exact (Reps.one (show Kd.M (Kd.int .i64) _ _ _ t130 [.int .i64 t130] from rfl) (Reps.one (show Kd.M (Kd.int .i64) _ _ _ t131 [.int .i64 t131] from rfl) (Reps.none _ _)))); intro v133 w33 ho34 hb hg_ hnew_; clear hg_ hnew_; (first | rw [← Ny132.out] at ho34 | (simp only [Int.reduceToNat] at ho34; rw [← Ny132.out] at ho34)); have n0_ := Aside0.mk (Kd.R_lower ho34 (below_size (uB HB.out))); have n1_ := Aside0.mk (below_step (uB HB.out) hb); clear HB; have HO134 := n0_; have HB := n1_; clear n0_ n1_; clear hb ho34; obtain ⟨Ao35, co35, eo35⟩ := Kd.R_slice HO134.out; subst eo35) | (go_at_call 36; (with_reducible refine (cmp_Or_int.calls kj6 _ _ y132 t135 _ ?side1 ?side2 A18.out).mono ?_); (case side1 => repeat (first | exact (Kd.R_reads' HO134.out).2.2 | (with_reducible refine Kd.C_alloc ?_ _) | (with_reducible refine Kd.C_drewN ?_ _) | (with_reducible refine Kd.C_drew ?_))); (case side2 => exact (Kd.R_reads' HO134.out).2.1); rintro e w' ⟨rfl, ⟨nd, rfl⟩⟩; (try first | exact ⟨rfl, _, World.drewN_drewN _ _ _⟩ | exact ⟨rfl, _, Eq.trans (World.drewN_drewN _ _ _) (congrArg (World.drewN _) (Nat.add_assoc _ _ _))⟩)) | (go_at_call 28; (first | (with_reducible refine (strings_Repeat.calls (⟨#[48]⟩ : ByteArray) ji20 t136 _ A21.out).mono ?_) | (with_reducible refine (strings_Repeat.calls (⟨#[48]⟩ : ByteArray) (t126.size : Int) t136 _ (by rw [show (t126.size : Int) = ji20 by rw [← hji20_]; split <;> omega]; exact A21.out)).mono ?_) | (with_reducible refine (strings_Repeat.calls (⟨#[48]⟩ : ByteArray) (t129.size : Int) t136 _ (by rw [show (t129.size : Int) = ji20 by rw [← hji20_]; split <;> omega]; exact A21.out)).mono ?_)); rintro e w36 ⟨rfl, hb⟩; have n0_ := Aside0.mk (Kd.R_below (uR HO134.out) hb); have n1_ := Aside0.mk (below_step (uB HB.out) hb); clear HO134; clear HB; have HO134 := n0_; have HB := n1_; clear n0_ n1_; (try clear hb); (try clear hb2); (try clear hk); (try clear hi)) | (go_at_call 37; (refine (strings_Compare.calls ((t136.extract ((t129.size : Int) : Int).toNat t136.size) ++ t129) ((t136.extract ((t126.size : Int) : Int).toNat t136.size) ++ t126) t137 _ A28.out).mono ?_); rintro e w' ⟨rfl, ⟨nd, rfl⟩⟩; (try first | exact ⟨rfl, _, World.drewN_drewN _ _ _⟩ | exact ⟨rfl, _, Eq.trans (World.drewN_drewN _ _ _) (congrArg (World.drewN _) (Nat.add_assoc _ _ _))⟩)))
      all_goals (repeat (go_quiet (first | (go_at_call 35; (with_reducible refine (directory_parts.calls a0 t124 t125 t126 _ A14.out).mono ?_); rintro e w29 ⟨rfl, hb⟩; have n0_ := Aside0.mk (below_step (uB HB.out) hb); clear HB; have HB := n0_; clear n0_; (try clear hb); (try clear hb2); (try clear hk); (try clear hi)) | (go_at_call 35; (with_reducible refine (directory_parts.calls a1 t127 t128 t129 _ A15.out).mono ?_); rintro e w30 ⟨rfl, hb⟩; have n0_ := Aside0.mk (below_step (uB HB.out) hb); clear HB; have HB := n0_; clear n0_; (try clear hb); (try clear hb2); (try clear hk); (try clear hi)) | (go_at_call 34; (with_reducible refine (directory_behind.calls t124 t127 32 t130 _ A16.out).mono ?_); rintro e w31 ⟨rfl, hb⟩; have n0_ := Aside0.mk (below_step (uB HB.out) hb); clear HB; have HB := n0_; clear n0_; (try clear hb); (try clear hb2); (try clear hk); (try clear hi)) | (go_at_call 34; (with_reducible refine (directory_behind.calls t125 t128 32 t131 _ A17.out).mono ?_); rintro e w32 ⟨rfl, hb⟩; have n0_ := Aside0.mk (below_step (uB HB.out) hb); clear HB; have HB := n0_; clear n0_; (try clear hb); (try clear hb2); (try clear hk); (try clear hi)) | ((with_reducible refine gate_dst (N := 52) rfl ?_); refine Kd.R_lit (Kd.int .i64) _ 3 ?hg (N := 52) ?hd (xs := ([t130, t131] : List Int)) (inner := [.int .i64 t130, .int .i64 t131]) (ok := fun _ => True) (okp := fun _ => True) ?hr ?hp (fun _ hk => hk) trivial (Below.refl _ _) (Nat.le_refl _) (by simp) ?_; (case hd => rfl); (case hg => rfl); (case hr => first | (go_simp; done) | (go_simp; rfl)); (case hp => exact (Reps.one (show Kd.M (Kd.int .i64) _ _ _ t130 [.int .i64 t130] from rfl) (Reps.one (show Kd.M (Kd.int .i64) _ _ _ t131 [.int .i64 t131] from rfl) (Reps.none _ _)))); intro v133 w33 ho34 hb hg_ hnew_; clear hg_ hnew_; (first | rw [← Ny132.out] at ho34 | (simp only [Int.reduceToNat] at ho34; rw [← Ny132.out] at ho34)); have n0_ := Aside0.mk (Kd.R_lower ho34 (below_size (uB HB.out))); have n1_ := Aside0.mk (below_step (uB HB.out) hb); clear HB; have HO134 := n0_; have HB := n1_; clear n0_ n1_; clear hb ho34; obtain ⟨Ao35, co35, eo35⟩ := Kd.R_slice HO134.out; subst eo35) | (go_at_call 36; (with_reducible refine (cmp_Or_int.calls kj6 _ _ y132 t135 _ ?side1 ?side2 A18.out).mono ?_); (case side1 => repeat (first | exact (Kd.R_reads' HO134.out).2.2 | (with_reducible refine Kd.C_alloc ?_ _) | (with_reducible refine Kd.C_drewN ?_ _) | (with_reducible refine Kd.C_drew ?_))); (case side2 => exact (Kd.R_reads' HO134.out).2.1); rintro e w' ⟨rfl, ⟨nd, rfl⟩⟩; (try first | exact ⟨rfl, _, World.drewN_drewN _ _ _⟩ | exact ⟨rfl, _, Eq.trans (World.drewN_drewN _ _ _) (congrArg (World.drewN _) (Nat.add_assoc _ _ _))⟩)) | (go_at_call 28; (first | (with_reducible refine (strings_Repeat.calls (⟨#[48]⟩ : ByteArray) ji20 t136 _ A21.out).mono ?_) | (with_reducible refine (strings_Repeat.calls (⟨#[48]⟩ : ByteArray) (t126.size : Int) t136 _ (by rw [show (t126.size : Int) = ji20 by rw [← hji20_]; split <;> omega]; exact A21.out)).mono ?_) | (with_reducible refine (strings_Repeat.calls (⟨#[48]⟩ : ByteArray) (t129.size : Int) t136 _ (by rw [show (t129.size : Int) = ji20 by rw [← hji20_]; split <;> omega]; exact A21.out)).mono ?_)); rintro e w36 ⟨rfl, hb⟩; have n0_ := Aside0.mk (Kd.R_below (uR HO134.out) hb); have n1_ := Aside0.mk (below_step (uB HB.out) hb); clear HO134; clear HB; have HO134 := n0_; have HB := n1_; clear n0_ n1_; (try clear hb); (try clear hb2); (try clear hk); (try clear hi)) | (go_at_call 37; (refine (strings_Compare.calls ((t136.extract ((t129.size : Int) : Int).toNat t136.size) ++ t129) ((t136.extract ((t126.size : Int) : Int).toNat t136.size) ++ t126) t137 _ A28.out).mono ?_); rintro e w' ⟨rfl, ⟨nd, rfl⟩⟩; (try first | exact ⟨rfl, _, World.drewN_drewN _ _ _⟩ | exact ⟨rfl, _, Eq.trans (World.drewN_drewN _ _ _) (congrArg (World.drewN _) (Nat.add_assoc _ _ _))⟩))); try go_wp2_with (first | (go_at_call 35; (with_reducible refine (directory_parts.calls a0 t124 t125 t126 _ A14.out).mono ?_); rintro e w29 ⟨rfl, hb⟩; have n0_ := Aside0.mk (below_step (uB HB.out) hb); clear HB; have HB := n0_; clear n0_; (try clear hb); (try clear hb2); (try clear hk); (try clear hi)) | (go_at_call 35; (with_reducible refine (directory_parts.calls a1 t127 t128 t129 _ A15.out).mono ?_); rintro e w30 ⟨rfl, hb⟩; have n0_ := Aside0.mk (below_step (uB HB.out) hb); clear HB; have HB := n0_; clear n0_; (try clear hb); (try clear hb2); (try clear hk); (try clear hi)) | (go_at_call 34; (with_reducible refine (directory_behind.calls t124 t127 32 t130 _ A16.out).mono ?_); rintro e w31 ⟨rfl, hb⟩; have n0_ := Aside0.mk (below_step (uB HB.out) hb); clear HB; have HB := n0_; clear n0_; (try clear hb); (try clear hb2); (try clear hk); (try clear hi)) | (go_at_call 34; (with_reducible refine (directory_behind.calls t125 t128 32 t131 _ A17.out).mono ?_); rintro e w32 ⟨rfl, hb⟩; have n0_ := Aside0.mk (below_step (uB HB.out) hb); clear HB; have HB := n0_; clear n0_; (try clear hb); (try clear hb2); (try clear hk); (try clear hi)) | ((with_reducible refine gate_dst (N := 52) rfl ?_); refine Kd.R_lit (Kd.int .i64) _ 3 ?hg (N := 52) ?hd (xs := ([t130, t131] : List Int)) (inner := [.int .i64 t130, .int .i64 t131]) (ok := fun _ => True) (okp := fun _ => True) ?hr ?hp (fun _ hk => hk) trivial (Below.refl _ _) (Nat.le_refl _) (by simp) ?_; (case hd => rfl); (case hg => rfl); (case hr => first | (go_simp; done) | (go_simp; rfl)); (case hp => exact (Reps.one (show Kd.M (Kd.int .i64) _ _ _ t130 [.int .i64 t130] from rfl) (Reps.one (show Kd.M (Kd.int .i64) _ _ _ t131 [.int .i64 t131] from rfl) (Reps.none _ _)))); intro v133 w33 ho34 hb hg_ hnew_; clear hg_ hnew_; (first | rw [← Ny132.out] at ho34 | (simp only [Int.reduceToNat] at ho34; rw [← Ny132.out] at ho34)); have n0_ := Aside0.mk (Kd.R_lower ho34 (below_size (uB HB.out))); have n1_ := Aside0.mk (below_step (uB HB.out) hb); clear HB; have HO134 := n0_; have HB := n1_; clear n0_ n1_; clear hb ho34; obtain ⟨Ao35, co35, eo35⟩ := Kd.R_slice HO134.out; subst eo35) | (go_at_call 36; (with_reducible refine (cmp_Or_int.calls kj6 _ _ y132 t135 _ ?side1 ?side2 A18.out).mono ?_); (case side1 => repeat (first | exact (Kd.R_reads' HO134.out).2.2 | (with_reducible refine Kd.C_alloc ?_ _) | (with_reducible refine Kd.C_drewN ?_ _) | (with_reducible refine Kd.C_drew ?_))); (case side2 => exact (Kd.R_reads' HO134.out).2.1); rintro e w' ⟨rfl, ⟨nd, rfl⟩⟩; (try first | exact ⟨rfl, _, World.drewN_drewN _ _ _⟩ | exact ⟨rfl, _, Eq.trans (World.drewN_drewN _ _ _) (congrArg (World.drewN _) (Nat.add_assoc _ _ _))⟩)) | (go_at_call 28; (first | (with_reducible refine (strings_Repeat.calls (⟨#[48]⟩ : ByteArray) ji20 t136 _ A21.out).mono ?_) | (with_reducible refine (strings_Repeat.calls (⟨#[48]⟩ : ByteArray) (t126.size : Int) t136 _ (by rw [show (t126.size : Int) = ji20 by rw [← hji20_]; split <;> omega]; exact A21.out)).mono ?_) | (with_reducible refine (strings_Repeat.calls (⟨#[48]⟩ : ByteArray) (t129.size : Int) t136 _ (by rw [show (t129.size : Int) = ji20 by rw [← hji20_]; split <;> omega]; exact A21.out)).mono ?_)); rintro e w36 ⟨rfl, hb⟩; have n0_ := Aside0.mk (Kd.R_below (uR HO134.out) hb); have n1_ := Aside0.mk (below_step (uB HB.out) hb); clear HO134; clear HB; have HO134 := n0_; have HB := n1_; clear n0_ n1_; (try clear hb); (try clear hb2); (try clear hk); (try clear hi)) | (go_at_call 37; (refine (strings_Compare.calls ((t136.extract ((t129.size : Int) : Int).toNat t136.size) ++ t129) ((t136.extract ((t126.size : Int) : Int).toNat t136.size) ++ t126) t137 _ A28.out).mono ?_); rintro e w' ⟨rfl, ⟨nd, rfl⟩⟩; (try first | exact ⟨rfl, _, World.drewN_drewN _ _ _⟩ | exact ⟨rfl, _, Eq.trans (World.drewN_drewN _ _ _) (congrArg (World.drewN _) (Nat.add_assoc _ _ _))⟩)))))
      all_goals go_ret
      all_goals (exact ⟨by first | rfl | (simp [errW_none, errW_some] <;> rfl) | (simp only [← hji20]; first | rfl | (simp [errW_none, errW_some] <;> rfl)) | (simp [*, errW_none, errW_some] <;> rfl), uB HB.out⟩)
     ·rw [if_neg c19] at H
      have c19b0 : (t135 == 0) = false := beq_eq_false_iff_ne.mpr c19
      have c19b1 : (t135 != 0) = true := bne_iff_ne.mpr c19
      obtain rfl := Option.some.inj H
      go_wp2_with (first | (go_at_call 35; (with_reducible refine (directory_parts.calls a0 t124 t125 t126 _ A14.out).mono ?_); rintro e w37 ⟨rfl, hb⟩; have n0_ := Aside0.mk (below_step (uB HB.out) hb); clear HB; have HB := n0_; clear n0_; (try clear hb); (try clear hb2); (try clear hk); (try clear hi)) | (go_at_call 35; (with_reducible refine (directory_parts.calls a1 t127 t128 t129 _ A15.out).mono ?_); rintro e w38 ⟨rfl, hb⟩; have n0_ := Aside0.mk (below_step (uB HB.out) hb); clear HB; have HB := n0_; clear n0_; (try clear hb); (try clear hb2); (try clear hk); (try clear hi)) | (go_at_call 34; (with_reducible refine (directory_behind.calls t124 t127 32 t130 _ A16.out).mono ?_); rintro e w39 ⟨rfl, hb⟩; have n0_ := Aside0.mk (below_step (uB HB.out) hb); clear HB; have HB := n0_; clear n0_; (try clear hb); (try clear hb2); (try clear hk); (try clear hi)) | (go_at_call 34; (with_reducible refine (directory_behind.calls t125 t128 32 t131 _ A17.out).mono ?_); rintro e w40 ⟨rfl, hb⟩; have n0_ := Aside0.mk (below_step (uB HB.out) hb); clear HB; have HB := n0_; clear n0_; (try clear hb); (try clear hb2); (try clear hk); (try clear hi)) | ((with_reducible refine gate_dst (N := 52) rfl ?_); refine Kd.R_lit (Kd.int .i64) _ 3 ?hg (N := 52) ?hd (xs := ([t130, t131] : List Int)) (inner := [.int .i64 t130, .int .i64 t131]) (ok := fun _ => True) (okp := fun _ => True) ?hr ?hp (fun _ hk => hk) trivial (Below.refl _ _) (Nat.le_refl _) (by simp) ?_; (case hd => rfl); (case hg => rfl); (case hr => first | (go_simp; done) | (go_simp; rfl)); (case hp => exact (Reps.one (show Kd.M (Kd.int .i64) _ _ _ t130 [.int .i64 t130] from rfl) (Reps.one (show Kd.M (Kd.int .i64) _ _ _ t131 [.int .i64 t131] from rfl) (Reps.none _ _)))); intro v133 w41 ho42 hb hg_ hnew_; clear hg_ hnew_; (first | rw [← Ny132.out] at ho42 | (simp only [Int.reduceToNat] at ho42; rw [← Ny132.out] at ho42)); have n0_ := Aside0.mk (Kd.R_lower ho42 (below_size (uB HB.out))); have n1_ := Aside0.mk (below_step (uB HB.out) hb); clear HB; have HO134 := n0_; have HB := n1_; clear n0_ n1_; clear hb ho42; obtain ⟨Ao43, co43, eo43⟩ := Kd.R_slice HO134.out; subst eo43) | (go_at_call 36; (with_reducible refine (cmp_Or_int.calls kj6 _ _ y132 t135 _ ?side1 ?side2 A18.out).mono ?_); (case side1 => repeat (first | exact (Kd.R_reads' HO134.out).2.2 | (with_reducible refine Kd.C_alloc ?_ _) | (with_reducible refine Kd.C_drewN ?_ _) | (with_reducible refine Kd.C_drew ?_))); (case side2 => exact (Kd.R_reads' HO134.out).2.1); rintro e w' ⟨rfl, ⟨nd, rfl⟩⟩; (try first | exact ⟨rfl, _, World.drewN_drewN _ _ _⟩ | exact ⟨rfl, _, Eq.trans (World.drewN_drewN _ _ _) (congrArg (World.drewN _) (Nat.add_assoc _ _ _))⟩)))
      repeat (go_quiet (first | (go_at_call 35; (with_reducible refine (directory_parts.calls a0 t124 t125 t126 _ A14.out).mono ?_); rintro e w37 ⟨rfl, hb⟩; have n0_ := Aside0.mk (below_step (uB HB.out) hb); clear HB; have HB := n0_; clear n0_; (try clear hb); (try clear hb2); (try clear hk); (try clear hi)) | (go_at_call 35; (with_reducible refine (directory_parts.calls a1 t127 t128 t129 _ A15.out).mono ?_); rintro e w38 ⟨rfl, hb⟩; have n0_ := Aside0.mk (below_step (uB HB.out) hb); clear HB; have HB := n0_; clear n0_; (try clear hb); (try clear hb2); (try clear hk); (try clear hi)) | (go_at_call 34; (with_reducible refine (directory_behind.calls t124 t127 32 t130 _ A16.out).mono ?_); rintro e w39 ⟨rfl, hb⟩; have n0_ := Aside0.mk (below_step (uB HB.out) hb); clear HB; have HB := n0_; clear n0_; (try clear hb); (try clear hb2); (try clear hk); (try clear hi)) | (go_at_call 34; (with_reducible refine (directory_behind.calls t125 t128 32 t131 _ A17.out).mono ?_); rintro e w40 ⟨rfl, hb⟩; have n0_ := Aside0.mk (below_step (uB HB.out) hb); clear HB; have HB := n0_; clear n0_; (try clear hb); (try clear hb2); (try clear hk); (try clear hi)) | ((with_reducible refine gate_dst (N := 52) rfl ?_); refine Kd.R_lit (Kd.int .i64) _ 3 ?hg (N := 52) ?hd (xs := ([t130, t131] : List Int)) (inner := [.int .i64 t130, .int .i64 t131]) (ok := fun _ => True) (okp := fun _ => True) ?hr ?hp (fun _ hk => hk) trivial (Below.refl _ _) (Nat.le_refl _) (by simp) ?_; (case hd => rfl); (case hg => rfl); (case hr => first | (go_simp; done) | (go_simp; rfl)); (case hp => exact (Reps.one (show Kd.M (Kd.int .i64) _ _ _ t130 [.int .i64 t130] from rfl) (Reps.one (show Kd.M (Kd.int .i64) _ _ _ t131 [.int .i64 t131] from rfl) (Reps.none _ _)))); intro v133 w41 ho42 hb hg_ hnew_; clear hg_ hnew_; (first | rw [← Ny132.out] at ho42 | (simp only [Int.reduceToNat] at ho42; rw [← Ny132.out] at ho42)); have n0_ := Aside0.mk (Kd.R_lower ho42 (below_size (uB HB.out))); have n1_ := Aside0.mk (below_step (uB HB.out) hb); clear HB; have HO134 := n0_; have HB := n1_; clear n0_ n1_; clear hb ho42; obtain ⟨Ao43, co43, eo43⟩ := Kd.R_slice HO134.out; subst eo43) | (go_at_call 36; (with_reducible refine (cmp_Or_int.calls kj6 _ _ y132 t135 _ ?side1 ?side2 A18.out).mono ?_); (case side1 => repeat (first | exact (Kd.R_reads' HO134.out).2.2 | (with_reducible refine Kd.C_alloc ?_ _) | (with_reducible refine Kd.C_drewN ?_ _) | (with_reducible refine Kd.C_drew ?_))); (case side2 => exact (Kd.R_reads' HO134.out).2.1); rintro e w' ⟨rfl, ⟨nd, rfl⟩⟩; (try first | exact ⟨rfl, _, World.drewN_drewN _ _ _⟩ | exact ⟨rfl, _, Eq.trans (World.drewN_drewN _ _ _) (congrArg (World.drewN _) (Nat.add_assoc _ _ _))⟩))); try go_wp2_with (first | (go_at_call 35; (with_reducible refine (directory_parts.calls a0 t124 t125 t126 _ A14.out).mono ?_); rintro e w37 ⟨rfl, hb⟩; have n0_ := Aside0.mk (below_step (uB HB.out) hb); clear HB; have HB := n0_; clear n0_; (try clear hb); (try clear hb2); (try clear hk); (try clear hi)) | (go_at_call 35; (with_reducible refine (directory_parts.calls a1 t127 t128 t129 _ A15.out).mono ?_); rintro e w38 ⟨rfl, hb⟩; have n0_ := Aside0.mk (below_step (uB HB.out) hb); clear HB; have HB := n0_; clear n0_; (try clear hb); (try clear hb2); (try clear hk); (try clear hi)) | (go_at_call 34; (with_reducible refine (directory_behind.calls t124 t127 32 t130 _ A16.out).mono ?_); rintro e w39 ⟨rfl, hb⟩; have n0_ := Aside0.mk (below_step (uB HB.out) hb); clear HB; have HB := n0_; clear n0_; (try clear hb); (try clear hb2); (try clear hk); (try clear hi)) | (go_at_call 34; (with_reducible refine (directory_behind.calls t125 t128 32 t131 _ A17.out).mono ?_); rintro e w40 ⟨rfl, hb⟩; have n0_ := Aside0.mk (below_step (uB HB.out) hb); clear HB; have HB := n0_; clear n0_; (try clear hb); (try clear hb2); (try clear hk); (try clear hi)) | ((with_reducible refine gate_dst (N := 52) rfl ?_); refine Kd.R_lit (Kd.int .i64) _ 3 ?hg (N := 52) ?hd (xs := ([t130, t131] : List Int)) (inner := [.int .i64 t130, .int .i64 t131]) (ok := fun _ => True) (okp := fun _ => True) ?hr ?hp (fun _ hk => hk) trivial (Below.refl _ _) (Nat.le_refl _) (by simp) ?_; (case hd => rfl); (case hg => rfl); (case hr => first | (go_simp; done) | (go_simp; rfl)); (case hp => exact (Reps.one (show Kd.M (Kd.int .i64) _ _ _ t130 [.int .i64 t130] from rfl) (Reps.one (show Kd.M (Kd.int .i64) _ _ _ t131 [.int .i64 t131] from rfl) (Reps.none _ _)))); intro v133 w41 ho42 hb hg_ hnew_; clear hg_ hnew_; (first | rw [← Ny132.out] at ho42 | (simp only [Int.reduceToNat] at ho42; rw [← Ny132.out] at ho42)); have n0_ := Aside0.mk (Kd.R_lower ho42 (below_size (uB HB.out))); have n1_ := Aside0.mk (below_step (uB HB.out) hb); clear HB; have HO134 := n0_; have HB := n1_; clear n0_ n1_; clear hb ho42; obtain ⟨Ao43, co43, eo43⟩ := Kd.R_slice HO134.out; subst eo43) | (go_at_call 36; (with_reducible refine (cmp_Or_int.calls kj6 _ _ y132 t135 _ ?side1 ?side2 A18.out).mono ?_); (case side1 => repeat (first | exact (Kd.R_reads' HO134.out).2.2 | (with_reducible refine Kd.C_alloc ?_ _) | (with_reducible refine Kd.C_drewN ?_ _) | (with_reducible refine Kd.C_drew ?_))); (case side2 => exact (Kd.R_reads' HO134.out).2.1); rintro e w' ⟨rfl, ⟨nd, rfl⟩⟩; (try first | exact ⟨rfl, _, World.drewN_drewN _ _ _⟩ | exact ⟨rfl, _, Eq.trans (World.drewN_drewN _ _ _) (congrArg (World.drewN _) (Nat.add_assoc _ _ _))⟩))))
      go_ret
      exact ⟨by first | rfl | (simp [errW_none, errW_some] <;> rfl) | (simp [*, errW_none, errW_some] <;> rfl), uB HB.out⟩

/-! ### directory_places: function 47 -/
mutual
def directory_places.l0 : Nat → List Int → Int → List Int → Int → Int → Option (List Int × Int × Bool)
 | 0, _, _, _, _, _ => none
 | k + 1, x5, x6, x10, x11, x12 => if x12 < x11 then (if 0 ≤ x12 then (if x12 < (x10.length : Int) then (if (rd x10 x12) < 34 then (directory_places.j1 k x5 x6 (rd x10 x12) x10 x11 x12 true) else (if (rd x10 x12) > 254 then (directory_places.j1 k x5 x6 (rd x10 x12) x10 x11 x12 true) else (directory_places.j1 k x5 x6 (rd x10 x12) x10 x11 x12 ((Int.tmod (rd x10 x12) 2) != 0)))) else (none)) else (none)) else (some (x5, x6, true))
def directory_places.j1 : Nat → List Int → Int → Int → List Int → Int → Int → Bool → Option (List Int × Int × Bool)
 | 0, _, _, _, _, _, _, _ => none
 | k + 1, x5, x6, x8, x10, x11, x12, x26 => if x26 = true then (some (([] : List Int), 0, false)) else (if x8 > (wrap64 (2048 - (Int.tmod x6 2048))) then (if x5.length < 17592186044416 then (directory_places.l0 k (x5 ++ [wrap64 (x6 + (wrap64 (2048 - (Int.tmod x6 2048))))]) (wrap64 ((wrap64 (x6 + (wrap64 (2048 - (Int.tmod x6 2048))))) + x8)) x10 x11 (wrap64 (x12 + 1))) else (none)) else (if x5.length < 17592186044416 then (directory_places.l0 k (x5 ++ [x6]) (wrap64 (x6 + x8)) x10 x11 (wrap64 (x12 + 1))) else (none)))
end
def directory_places.f (k : Nat) (l0 : List Int) : Option (List Int × Int × Bool) := directory_places.l0 k ([] : List Int) 0 l0 (l0.length : Int) 0
theorem directory_places.mono_l : ∀ k, (∀ y0 y1 y2 y3 y4, LeO (directory_places.l0 k y0 y1 y2 y3 y4) (directory_places.l0 (k + 1) y0 y1 y2 y3 y4)) ∧ (∀ y0 y1 y2 y3 y4 y5 y6, LeO (directory_places.j1 k y0 y1 y2 y3 y4 y5 y6) (directory_places.j1 (k + 1) y0 y1 y2 y3 y4 y5 y6))
 | 0 => ⟨fun _ _ _ _ _ r h => by simp [directory_places.l0] at h, fun _ _ _ _ _ _ _ r h => by simp [directory_places.j1] at h⟩
 | k + 1 => by
  obtain ⟨ih0, ih1⟩ := directory_places.mono_l k
  refine ⟨?_, ?_⟩
  ·intro y0 y1 y2 y3 y4
   unfold directory_places.l0
   repeat' first
   | (with_reducible exact ih0 _ _ _ _ _)
   | (with_reducible exact ih1 _ _ _ _ _ _ _)
   | (with_reducible exact LeO.refl _)
   | (with_reducible exact LeO.none _)
   | (with_reducible refine LeO.ite ?_ ?_)
   | (with_reducible refine LeO.bind ?_ (fun _ => ?_))
   | exact ih0 _ _ _ _ _
   | exact ih1 _ _ _ _ _ _ _
   | exact LeO.none _
   | refine LeO.ite ?_ ?_
   | refine LeO.bind ?_ (fun _ => ?_)
  ·intro y0 y1 y2 y3 y4 y5 y6
   unfold directory_places.j1
   repeat' first
   | (with_reducible exact ih0 _ _ _ _ _)
   | (with_reducible exact ih1 _ _ _ _ _ _ _)
   | (with_reducible exact LeO.refl _)
   | (with_reducible exact LeO.none _)
   | (with_reducible refine LeO.ite ?_ ?_)
   | (with_reducible refine LeO.bind ?_ (fun _ => ?_))
   | exact ih0 _ _ _ _ _
   | exact ih1 _ _ _ _ _ _ _
   | exact LeO.none _
   | refine LeO.ite ?_ ?_
   | refine LeO.bind ?_ (fun _ => ?_)
theorem directory_places.mono : ∀ a0 k, LeO (directory_places.f k a0) (directory_places.f (k + 1) a0) := by
 intro a0 k
 obtain ⟨ih0, ih1⟩ := directory_places.mono_l k
 unfold directory_places.f
 repeat' first
   | (with_reducible exact ih0 _ _ _ _ _)
   | (with_reducible exact ih1 _ _ _ _ _ _ _)
   | (with_reducible exact LeO.refl _)
   | (with_reducible exact LeO.none _)
   | (with_reducible refine LeO.ite ?_ ?_)
   | (with_reducible refine LeO.bind ?_ (fun _ => ?_))
   | exact ih0 _ _ _ _ _
   | exact ih1 _ _ _ _ _ _ _
   | exact LeO.none _
   | refine LeO.ite ?_ ?_
   | refine LeO.bind ?_ (fun _ => ?_)
set_option maxHeartbeats 8000000 in
set_option maxRecDepth 100000 in
theorem directory_places.calls (k : Nat) (A0 : Option Addr) (c0 : Nat) (l0 : List Int) (r1 : List Int) (r2 : Int) (r3 : Bool) (w : World) (hr0 : Kd.C (Kd.int .i64) w A0 l0.length l0) (hc0 : l0.length ≤ c0) (h : directory_places.f k l0 = some (r1, r2, r3)) :
  Calls Tryz.prog 47 #[.slice A0 l0.length c0] w fun e w' => ∃ v0_ : Value, e = .returned (.tuple #[v0_, .int .i64 r2, .bool r3]) ∧ Kd.R (Kd.int .i64) 3 w' w.heap.size (fun _ => True) v0_ r1 ∧ Below w.heap.size w w' := by
 have HR0 := Aside0.mk hr0
 have HC0 := Aside0.mk hc0
 clear hr0 hc0
 have HB := Aside0.mk (Below.refl w.heap.size w)
 have H : (directory_places.l0 k ([] : List Int) 0 l0 (l0.length : Int) 0) = some (r1, r2, r3) := h
 clear h
 have H' := Aside0.mk H
 clear H
 go_enter Tryz.func47, Tryz.ntmps47
 go_wp2
 go_loopg [5, 6, 12] k (fun kq v5 v6 v12 w' => ∃ (x5_1 : List Int) (x6_1 : Int) (x12_1 : Int), v6 = .int .i64 x6_1 ∧ v12 = .int .i64 x12_1 ∧ Aside0 (directory_places.l0 kq x5_1 x6_1 l0 (l0.length : Int) x12_1 = some (r1, r2, r3)) ∧ Aside0 (kq ≤ k) ∧ Aside0 (Kd.R (Kd.int .i64) 3 w' w.heap.size (fun _ => True) v5 x5_1) ∧ Aside0 (Below w.heap.size w w'))
 case atStart => exact ⟨(([] : List Int)), (0), (0), (by first | rfl | (simp; done) | (simp [*]; done)), (by first | rfl | (simp; done) | (simp [*]; done)), H', ⟨Nat.le_refl _⟩, ⟨by first | exact Kd.R_nil _ _ _ _ _ | exact Kd.N_nil _ _ _ _ _ | exact Kd.V_nil _ _ _ _ _ | exact Kd.Q_nil _ _ _ _ _ | exact Kd.S_nil _ _ _ _ _⟩, ⟨uB HB.out⟩⟩
 case round =>
  clear H'
  obtain ⟨x5_1, x6_1, x12_1, rfl, rfl, HA, HK1, HO_5, HB⟩ := hrel
  cases gk with
  | zero => exact absurd HA.out (by simp [directory_places.l0])
  | succ k1 =>
   have H := HA.out
   clear HA
   simp only [directory_places.l0] at H
   by_cases c2 : x12_1 < (l0.length : Int)
   ·rw [if_pos c2] at H
    have c2b0 : decide (x12_1 < (l0.length : Int)) = true := decide_eq_true c2
    clear c2
    by_cases c3 : 0 ≤ x12_1
    rotate_left
    ·rw [if_neg c3] at H
     exact absurd H (by simp)
    rw [if_pos c3] at H
    have c3b0 : decide (0 ≤ x12_1) = true := decide_eq_true c3
    clear c3
    by_cases c4 : x12_1 < (l0.length : Int)
    rotate_left
    ·rw [if_neg c4] at H
     exact absurd H (by simp)
    rw [if_pos c4] at H
    have c4b0 : decide (x12_1 < (l0.length : Int)) = true := decide_eq_true c4
    clear c4
    have HC5 := Aside0.mk H
    clear H
    have p138 : 0 ≤ (x12_1 : Int) := of_decide_eq_true (by first | (with_reducible assumption) | assumption)
    have q138 : x12_1 < (l0.length : Int) := of_decide_eq_true (by first | (with_reducible assumption) | assumption)
    obtain ⟨ad138, e138, hx138_0⟩ := Kd.at_int HR0.out x12_1 p138 q138
    cases e138
    replace hx138_0 := (HB.out.cell (World.block_lt_of_cell? w _ hx138_0)).trans hx138_0
    replace p138 := eq_true p138
    replace q138 := eq_true q138
    go_upto_region 6 with (fail)
    go_cut [26] (fun v26 wc => ∃ (kq : Nat) (x26_4 : Bool), v26 = .bool x26_4 ∧ Aside0 (directory_places.j1 kq x5_1 x6_1 (rd l0 x12_1) l0 (l0.length : Int) x12_1 x26_4 = some (r1, r2, r3)) ∧ Aside0 (kq ≤ k1) ∧ Aside0 (Kd.R (Kd.int .i64) 3 wc w.heap.size (fun _ => True) u5 x5_1) ∧ Aside0 (Below w.heap.size w wc))
    case first =>
     have H := HC5.out
     clear HC5
     by_cases c6 : (rd l0 x12_1) < 34
     ·rw [if_pos c6] at H
      have c6b0 : decide ((rd l0 x12_1) < 34) = true := decide_eq_true c6
      clear c6
      (first | rw [c6b0] | (simp only [i64_w, i32_w]; rw [c6b0]) | skip)
      have H' := Aside0.mk H
      clear H
      go_wp2
      go_meet
      case rel => exact ⟨_, (true), (by first | rfl | (simp; done) | (simp [*]; done)), H', ⟨by have := HK1.out; first | omega | exact Nat.le_refl _⟩, ⟨uR HO_5.out⟩, ⟨uB HB.out⟩⟩
     ·rw [if_neg c6] at H
      have c6b0 : decide ((rd l0 x12_1) < 34) = false := decide_eq_false c6
      clear c6
      (first | rw [c6b0] | (simp only [i64_w, i32_w]; rw [c6b0]) | skip)
      by_cases c7 : (rd l0 x12_1) > 254
      ·rw [if_pos c7] at H
       have c7b0 : decide (254 < (rd l0 x12_1)) = true := decide_eq_true c7
       clear c7
       have H' := Aside0.mk H
       clear H
       go_wp2
       go_meet
       case rel => exact ⟨_, (true), (by first | rfl | (simp; done) | (simp [*]; done)), H', ⟨by have := HK1.out; first | omega | exact Nat.le_refl _⟩, ⟨uR HO_5.out⟩, ⟨uB HB.out⟩⟩
      ·rw [if_neg c7] at H
       have c7b0 : decide (254 < (rd l0 x12_1)) = false := decide_eq_false c7
       clear c7
       have H' := Aside0.mk H
       clear H
       go_wp2
       go_meet
       case rel => exact ⟨_, (((Int.tmod (rd l0 x12_1) 2) != 0)), (by first | rfl | (simp; done) | (simp [*]; done)), H', ⟨by have := HK1.out; first | omega | exact Nat.le_refl _⟩, ⟨uR HO_5.out⟩, ⟨uB HB.out⟩⟩
    case rest =>
     clear HC5
     try clear p1
     try clear q1
     try clear hx1
     try clear c2
     try clear c2b0
     try clear p2
     try clear c3
     try clear c3b0
     try clear c4
     try clear c4b0
     try clear c6
     try clear c6b0
     try clear c7
     try clear c7b0
     try clear hx138_0
     try clear p138
     try clear q138
     obtain ⟨kq, x26_4, rfl, HA, HJ4, HO_5, HB⟩ := hcut
     cases kq with
     | zero => exact absurd HA.out (by simp [directory_places.j1])
     | succ kj4 =>
      have H := HA.out
      clear HA
      simp only [directory_places.j1] at H
      by_cases c8 : x26_4 = true
      ·subst c8
       have H1 : (some (([] : List Int), 0, false)) = some (r1, r2, r3) := by rw [if_pos rfl] at H; exact H
       clear H
       have H := H1
       clear H1
       simp only [Option.some.injEq, Prod.mk.injEq] at H
       obtain ⟨rfl, rfl, rfl⟩ := H
       go_wp2
       go_ret3
       exact ⟨_, by first | rfl | (simp [errW_none, errW_some] <;> rfl) | (simp [*, errW_none, errW_some] <;> rfl), by first | exact Kd.R_nil _ _ _ _ _ | exact Kd.N_nil _ _ _ _ _ | exact Kd.V_nil _ _ _ _ _ | exact Kd.Q_nil _ _ _ _ _ | exact Kd.S_nil _ _ _ _ _, uB HB.out⟩
      ·replace c8 := Bool.eq_false_iff.mpr c8
       subst c8
       have H1 : (if (rd l0 x12_1) > (wrap64 (2048 - (Int.tmod x6_1 2048))) then (if x5_1.length < 17592186044416 then (directory_places.l0 kj4 (x5_1 ++ [wrap64 (x6_1 + (wrap64 (2048 - (Int.tmod x6_1 2048))))]) (wrap64 ((wrap64 (x6_1 + (wrap64 (2048 - (Int.tmod x6_1 2048))))) + (rd l0 x12_1))) l0 (l0.length : Int) (wrap64 (x12_1 + 1))) else (none)) else (if x5_1.length < 17592186044416 then (directory_places.l0 kj4 (x5_1 ++ [x6_1]) (wrap64 (x6_1 + (rd l0 x12_1))) l0 (l0.length : Int) (wrap64 (x12_1 + 1))) else (none))) = some (r1, r2, r3) := by rw [if_neg (show ¬ (false = true) by decide)] at H; exact H
       clear H
       have H := H1
       clear H1
       by_cases c9 : (rd l0 x12_1) > (wrap64 (2048 - (Int.tmod x6_1 2048)))
       ·rw [if_pos c9] at H
        have c9b0 : decide ((wrap64 (2048 - (Int.tmod x6_1 2048))) < (rd l0 x12_1)) = true := decide_eq_true c9
        clear c9
        by_cases c10 : x5_1.length < 17592186044416
        rotate_left
        ·rw [if_neg c10] at H
         exact absurd H (by simp)
        rw [if_pos c10] at H
        have LMc10 := Aside0.mk c10
        clear c10
        obtain ⟨y139, hy139⟩ : ∃ y_ : List Int, y_ = (x5_1 ++ [wrap64 (x6_1 + (wrap64 (2048 - (Int.tmod x6_1 2048))))]) := ⟨_, rfl⟩
        replace H : (directory_places.l0 kj4 y139 (wrap64 ((wrap64 (x6_1 + (wrap64 (2048 - (Int.tmod x6_1 2048))))) + (rd l0 x12_1))) l0 (l0.length : Int) (wrap64 (x12_1 + 1))) = some (r1, r2, r3) := by first | (rw [hy139]; with_reducible exact H) | (have H2_ := (Option.bind_some _ _).symm.trans H; rw [hy139]; with_reducible exact H2_) | (have H2_ := (Option.bind_some _ _).symm.trans H; with_reducible exact H2_) | with_reducible exact H | (rw [hy139]; exact H) | exact H
        have Ny139 := Aside0.mk hy139
        clear hy139
        have H' := Aside0.mk H
        clear H
        go_wp2_with (first | ((with_reducible refine gate_builtin (b := .append) (xs := #[.tmp 36, .tmp 38]) rfl ?_); at_builtin; refine Kd.R_append (Kd.int .i64) (w0 := w) w.heap.size rfl (.tmp 36) (.tmp 38) 33 3 (.int .i64 0) 8 rfl Tryz.underlying33 info3 rfl (by decide) (by omega) u5 x5_1 (wrap64 (x6_1 + (wrap64 (2048 - (Int.tmod x6_1 2048))))) [.int .i64 (wrap64 (x6_1 + (wrap64 (2048 - (Int.tmod x6_1 2048)))))] (fun _ => True) (fun _ => False) rfl rfl ?aP (fun _ hk => hk.elim) ?aF ?aO ?aB ?aS ?aL ?_; (case aP => exact rfl); (case aB => exact (uB HB.out)); (case aF => exact (fun _ _ => trivial)); (case aO => exact (uR HO_5.out)); (case aS => exact (below_size (uB HB.out))); (case aL => have := LMc10.out; omega); intro v140 w11 ho hb hg hat; rw [← Ny139.out] at ho; have n0_ := Aside0.mk (hb); have n1_ := Aside0.mk (ho); clear HB; clear HO_5; have HB := n0_; have HO141 := n1_; clear n0_ n1_; clear ho hb hg hat))
        go_roundg kj4
        case measure => have := HK1.out; have := HJ4.out; omega
        case rel => exact ⟨(y139), (wrap64 ((wrap64 (x6_1 + (wrap64 (2048 - (Int.tmod x6_1 2048))))) + (rd l0 x12_1))), (wrap64 (x12_1 + 1)), (by first | rfl | (simp; done) | (simp [*]; done)), (by first | rfl | (simp; done) | (simp [*]; done)), H', ⟨by have := HK1.out; have := HJ4.out; omega⟩, ⟨uR HO141.out⟩, ⟨uB HB.out⟩⟩
       ·rw [if_neg c9] at H
        have c9b0 : decide ((wrap64 (2048 - (Int.tmod x6_1 2048))) < (rd l0 x12_1)) = false := decide_eq_false c9
        clear c9
        by_cases c12 : x5_1.length < 17592186044416
        rotate_left
        ·rw [if_neg c12] at H
         exact absurd H (by simp)
        rw [if_pos c12] at H
        have LMc12 := Aside0.mk c12
        clear c12
        obtain ⟨y142, hy142⟩ : ∃ y_ : List Int, y_ = (x5_1 ++ [x6_1]) := ⟨_, rfl⟩
        replace H : (directory_places.l0 kj4 y142 (wrap64 (x6_1 + (rd l0 x12_1))) l0 (l0.length : Int) (wrap64 (x12_1 + 1))) = some (r1, r2, r3) := by first | (rw [hy142]; with_reducible exact H) | (have H2_ := (Option.bind_some _ _).symm.trans H; rw [hy142]; with_reducible exact H2_) | (have H2_ := (Option.bind_some _ _).symm.trans H; with_reducible exact H2_) | with_reducible exact H | (rw [hy142]; exact H) | exact H
        have Ny142 := Aside0.mk hy142
        clear hy142
        have H' := Aside0.mk H
        clear H
        go_wp2_with (first | ((with_reducible refine gate_builtin (b := .append) (xs := #[.tmp 36, .tmp 38]) rfl ?_); at_builtin; refine Kd.R_append (Kd.int .i64) (w0 := w) w.heap.size rfl (.tmp 36) (.tmp 38) 33 3 (.int .i64 0) 8 rfl Tryz.underlying33 info3 rfl (by decide) (by omega) u5 x5_1 x6_1 [.int .i64 x6_1] (fun _ => True) (fun _ => False) rfl rfl ?aP (fun _ hk => hk.elim) ?aF ?aO ?aB ?aS ?aL ?_; (case aP => exact rfl); (case aB => exact (uB HB.out)); (case aF => exact (fun _ _ => trivial)); (case aO => exact (uR HO_5.out)); (case aS => exact (below_size (uB HB.out))); (case aL => have := LMc12.out; omega); intro v143 w13 ho hb hg hat; rw [← Ny142.out] at ho; have n0_ := Aside0.mk (hb); have n1_ := Aside0.mk (ho); clear HB; clear HO_5; have HB := n0_; have HO144 := n1_; clear n0_ n1_; clear ho hb hg hat))
        go_roundg kj4
        case measure => have := HK1.out; have := HJ4.out; omega
        case rel => exact ⟨(y142), (wrap64 (x6_1 + (rd l0 x12_1))), (wrap64 (x12_1 + 1)), (by first | rfl | (simp; done) | (simp [*]; done)), (by first | rfl | (simp; done) | (simp [*]; done)), H', ⟨by have := HK1.out; have := HJ4.out; omega⟩, ⟨uR HO144.out⟩, ⟨uB HB.out⟩⟩
   ·rw [if_neg c2] at H
    have c2b0 : decide (x12_1 < (l0.length : Int)) = false := decide_eq_false c2
    clear c2
    simp only [Option.some.injEq, Prod.mk.injEq] at H
    obtain ⟨rfl, rfl, rfl⟩ := H
    go_wp2
    go_ret3
    exact ⟨_, by first | rfl | (simp [errW_none, errW_some] <;> rfl) | (simp [*, errW_none, errW_some] <;> rfl), by (with_reducible repeat (first | apply Kd.R_alloc | apply Kd.R_drewN | apply Kd.R_drew)); exact HO_5.out, uB HB.out⟩

/-! ### directory_Offsets: function 22 -/
def directory_Offsets.f (k : Nat) (l0 : List Int) : Option (List Int) := (directory_places.f k l0).bind fun bt145 => (some bt145.1)
theorem directory_Offsets.mono : ∀ a0 k, LeO (directory_Offsets.f k a0) (directory_Offsets.f (k + 1) a0) := by
 intro a0 k
 unfold directory_Offsets.f
 repeat' first
   | (with_reducible exact directory_places.mono _ _)
   | (with_reducible exact LeO.refl _)
   | (with_reducible exact LeO.none _)
   | (with_reducible refine LeO.ite ?_ ?_)
   | (with_reducible refine LeO.bind ?_ (fun _ => ?_))
   | exact directory_places.mono _ _
   | exact LeO.none _
   | refine LeO.ite ?_ ?_
   | refine LeO.bind ?_ (fun _ => ?_)
set_option maxHeartbeats 8000000 in
set_option maxRecDepth 100000 in
theorem directory_Offsets.calls (k : Nat) (A0 : Option Addr) (c0 : Nat) (l0 : List Int) (r : List Int) (w : World) (hr0 : Kd.C (Kd.int .i64) w A0 l0.length l0) (hc0 : l0.length ≤ c0) (h : directory_Offsets.f k l0 = some r) :
  Calls Tryz.prog 22 #[.slice A0 l0.length c0] w fun e w' => ∃ v0_ : Value, e = .returned (v0_) ∧ Kd.R (Kd.int .i64) 3 w' w.heap.size (fun _ => True) v0_ r ∧ Below w.heap.size w w' := by
 have HR0 := Aside0.mk hr0
 have HC0 := Aside0.mk hc0
 clear hr0 hc0
 have HB := Aside0.mk (Below.refl w.heap.size w)
 have H : ((directory_places.f k l0).bind fun bt145 => (some bt145.1)) = some r := h
 clear h
 replace H := Option.bind_eq_some_iff.mp H
 obtain ⟨⟨t145, t146, t147⟩, A20, H⟩ := H
 replace H : (some t145) = some r := H
 have A2 := Aside0.mk A20
 clear A20
 obtain rfl := Option.some.inj H
 go_enter Tryz.func22, Tryz.ntmps22
 go_wp2_with (first | ((with_reducible refine gate_callee (f := 47) rfl ?_); refine gL (some 8) Tryz.func47 #[.slice A0 l0.length c0] ?_; (with_reducible refine (directory_places.calls k _ _ l0 t145 t146 t147 _ ?side1 ?side2 A2.out).mono ?_); (case side1 => repeat (first | exact HR0.out | (with_reducible refine Kd.C_alloc ?_ _) | (with_reducible refine Kd.C_drewN ?_ _) | (with_reducible refine Kd.C_drew ?_))); (case side2 => exact HC0.out); rintro e w3 ⟨v148, rfl, ho0, hb⟩; refine ⟨_, rfl, ?_⟩; have n0_ := Aside0.mk (Kd.R_lower ho0 (below_size (uB HB.out))); have n1_ := Aside0.mk (below_step (uB HB.out) hb); clear HB; have HO149 := n0_; have HB := n1_; clear n0_ n1_; (try clear hb); (try clear hb2); (try clear hk); (try clear hi); (try clear ho0)))
 go_ret
 exact ⟨_, by first | rfl | (simp [errW_none, errW_some] <;> rfl) | (simp [*, errW_none, errW_some] <;> rfl), by (with_reducible repeat (first | apply Kd.R_alloc | apply Kd.R_drewN | apply Kd.R_drew)); exact HO149.out, uB HB.out⟩

/-! ### directory_Blocks: function 19 -/
def directory_Blocks.f (k : Nat) (l0 : List Int) : Option (Int) := (directory_places.f k l0).bind fun bt150 => (some (wrap64 (Int.tdiv (wrap64 ((wrap64 (bt150.2.1 + 2048)) - 1)) 2048)))
theorem directory_Blocks.mono : ∀ a0 k, LeO (directory_Blocks.f k a0) (directory_Blocks.f (k + 1) a0) := by
 intro a0 k
 unfold directory_Blocks.f
 repeat' first
   | (with_reducible exact directory_places.mono _ _)
   | (with_reducible exact LeO.refl _)
   | (with_reducible exact LeO.none _)
   | (with_reducible refine LeO.ite ?_ ?_)
   | (with_reducible refine LeO.bind ?_ (fun _ => ?_))
   | exact directory_places.mono _ _
   | exact LeO.none _
   | refine LeO.ite ?_ ?_
   | refine LeO.bind ?_ (fun _ => ?_)
set_option maxHeartbeats 8000000 in
set_option maxRecDepth 100000 in
theorem directory_Blocks.calls (k : Nat) (A0 : Option Addr) (c0 : Nat) (l0 : List Int) (r : Int) (w : World) (hr0 : Kd.C (Kd.int .i64) w A0 l0.length l0) (hc0 : l0.length ≤ c0) (h : directory_Blocks.f k l0 = some r) :
  Calls Tryz.prog 19 #[.slice A0 l0.length c0] w fun e w' => e = .returned (.int .i64 r) ∧ Below w.heap.size w w' := by
 have HR0 := Aside0.mk hr0
 have HC0 := Aside0.mk hc0
 clear hr0 hc0
 have HB := Aside0.mk (Below.refl w.heap.size w)
 have H : ((directory_places.f k l0).bind fun bt150 => (some (wrap64 (Int.tdiv (wrap64 ((wrap64 (bt150.2.1 + 2048)) - 1)) 2048)))) = some r := h
 clear h
 replace H := Option.bind_eq_some_iff.mp H
 obtain ⟨⟨t150, t151, t152⟩, A20, H⟩ := H
 replace H : (some (wrap64 (Int.tdiv (wrap64 ((wrap64 (t151 + 2048)) - 1)) 2048))) = some r := H
 have A2 := Aside0.mk A20
 clear A20
 obtain rfl := Option.some.inj H
 go_enter Tryz.func19, Tryz.ntmps19
 go_wp2_with (first | ((with_reducible refine gate_callee (f := 47) rfl ?_); refine gL (some 8) Tryz.func47 #[.slice A0 l0.length c0] ?_; (with_reducible refine (directory_places.calls k _ _ l0 t150 t151 t152 _ ?side1 ?side2 A2.out).mono ?_); (case side1 => repeat (first | exact HR0.out | (with_reducible refine Kd.C_alloc ?_ _) | (with_reducible refine Kd.C_drewN ?_ _) | (with_reducible refine Kd.C_drew ?_))); (case side2 => exact HC0.out); rintro e w3 ⟨v153, rfl, ho0, hb⟩; refine ⟨_, rfl, ?_⟩; have n0_ := Aside0.mk (Kd.R_lower ho0 (below_size (uB HB.out))); have n1_ := Aside0.mk (below_step (uB HB.out) hb); clear HB; have HO154 := n0_; have HB := n1_; clear n0_ n1_; (try clear hb); (try clear hb2); (try clear hk); (try clear hi); (try clear ho0)))
 go_ret
 exact ⟨by first | rfl | (simp [errW_none, errW_some] <;> rfl) | (simp [*, errW_none, errW_some] <;> rfl), uB HB.out⟩

/-! ### masterdiscref21_Same: function 17 -/
def masterdiscref21_Same.l0 : Nat → List (S45) → List (S45) → Int → Option (Bool)
 | 0, _, _, _ => none
 | k + 1, x0, x1, x5 => if x5 < (x0.length : Int) then (if 0 ≤ x5 then (if x5 < (x1.length : Int) then (if (!((((rd_T45 x0 x5).f0).toList) == (((rd_T45 x1 x5).f0).toList)) || (!(((rd_T45 x0 x5).f1) == ((rd_T45 x1 x5).f1)) || (!(((rd_T45 x0 x5).f2) == ((rd_T45 x1 x5).f2)) || (!(((rd_T45 x0 x5).f3) == ((rd_T45 x1 x5).f3)) || (!(((rd_T45 x0 x5).f4) == ((rd_T45 x1 x5).f4)) || (!(((rd_T45 x0 x5).f5) == ((rd_T45 x1 x5).f5)) || (!(((rd_T45 x0 x5).f6) == ((rd_T45 x1 x5).f6)) || (!((((rd_T45 x0 x5).f7).toList) == (((rd_T45 x1 x5).f7).toList)))))))))) = true then (some false) else (masterdiscref21_Same.l0 k x0 x1 (wrap64 (x5 + 1)))) else (none)) else (none)) else (some true)
def masterdiscref21_Same.f (k : Nat) (l0 : List (S45)) (l1 : List (S45)) : Option (Bool) := if (l0.length : Int) = (l1.length : Int) then (masterdiscref21_Same.l0 k l0 l1 0) else (some false)
theorem masterdiscref21_Same.mono_l : ∀ k, (∀ y0 y1 y2, LeO (masterdiscref21_Same.l0 k y0 y1 y2) (masterdiscref21_Same.l0 (k + 1) y0 y1 y2))
 | 0 => fun _ _ _ r h => by simp [masterdiscref21_Same.l0] at h
 | k + 1 => by
  have ih0 := masterdiscref21_Same.mono_l k
  ·intro y0 y1 y2
   unfold masterdiscref21_Same.l0
   repeat' first
   | (with_reducible exact ih0 _ _ _)
   | (with_reducible exact LeO.refl _)
   | (with_reducible exact LeO.none _)
   | (with_reducible refine LeO.ite ?_ ?_)
   | (with_reducible refine LeO.bind ?_ (fun _ => ?_))
   | exact ih0 _ _ _
   | exact LeO.none _
   | refine LeO.ite ?_ ?_
   | refine LeO.bind ?_ (fun _ => ?_)
theorem masterdiscref21_Same.mono : ∀ a0 a1 k, LeO (masterdiscref21_Same.f k a0 a1) (masterdiscref21_Same.f (k + 1) a0 a1) := by
 intro a0 a1 k
 have ih0 := masterdiscref21_Same.mono_l k
 unfold masterdiscref21_Same.f
 repeat' first
   | (with_reducible exact ih0 _ _ _)
   | (with_reducible exact LeO.refl _)
   | (with_reducible exact LeO.none _)
   | (with_reducible refine LeO.ite ?_ ?_)
   | (with_reducible refine LeO.bind ?_ (fun _ => ?_))
   | exact ih0 _ _ _
   | exact LeO.none _
   | refine LeO.ite ?_ ?_
   | refine LeO.bind ?_ (fun _ => ?_)
set_option maxHeartbeats 8000000 in
set_option maxRecDepth 100000 in
theorem masterdiscref21_Same.calls (k : Nat) (A0 : Option Addr) (c0 : Nat) (l0 : List (S45)) (A1 : Option Addr) (c1 : Nat) (l1 : List (S45)) (r : Bool) (w : World) (hr0 : Kd.C k45 w A0 l0.length l0) (hc0 : l0.length ≤ c0) (hr1 : Kd.C k45 w A1 l1.length l1) (hc1 : l1.length ≤ c1) (h : masterdiscref21_Same.f k l0 l1 = some r) :
  Calls Tryz.prog 17 #[.slice A0 l0.length c0, .slice A1 l1.length c1] w fun e w' => e = .returned (.bool r) ∧ Drawn0 w w' := by
 have hu45 := Tryz.underlying45
 have HR0 := Aside0.mk hr0
 have HC0 := Aside0.mk hc0
 clear hr0 hc0
 have HR1 := Aside0.mk hr1
 have HC1 := Aside0.mk hc1
 clear hr1 hc1
 have H : (if (l0.length : Int) = (l1.length : Int) then (masterdiscref21_Same.l0 k l0 l1 0) else (some false)) = some r := h
 clear h
 by_cases c3 : (l0.length : Int) = (l1.length : Int)
 ·rw [if_pos c3] at H
  have c3b0 : ((l0.length : Int) == (l1.length : Int)) = true := beq_iff_eq.mpr c3
  have c3b1 : ((l0.length : Int) != (l1.length : Int)) = false := bne_eq_false_iff_eq.mpr c3
  have c3b2 : (l0.length == l1.length) = true := by first | simpa using c3 | (simp at c3 ⊢; omega)
  clear c3
  have H' := Aside0.mk H
  clear H
  go_enter Tryz.func17, Tryz.ntmps17
  go_wp2
  repeat (go_quiet (fail); try go_wp2)
  go_loopg [5] k (fun kq v5 w' => ∃ (x5_1 : Int), v5 = .int .i64 x5_1 ∧ Aside0 (masterdiscref21_Same.l0 kq l0 l1 x5_1 = some r) ∧ Aside0 (kq ≤ k) ∧ Drawn0 w w')
  case atStart => exact ⟨(0), (by first | rfl | (simp; done) | (simp [*]; done)), H', ⟨Nat.le_refl _⟩, by repeat (first | exact Drawn0.refl _ | apply Drawn0.step)⟩
  case round =>
   clear H'
   try clear c1
   try clear p2
   try clear c3
   try clear c3b0
   try clear c3b1
   try clear c3b2
   obtain ⟨x5_1, rfl, HA, HK1, ⟨m1, rfl⟩⟩ := hrel
   cases gk with
   | zero => exact absurd HA.out (by simp [masterdiscref21_Same.l0])
   | succ k1 =>
    have H := HA.out
    clear HA
    simp only [masterdiscref21_Same.l0] at H
    by_cases c4 : x5_1 < (l0.length : Int)
    ·rw [if_pos c4] at H
     have c4b0 : decide (x5_1 < (l0.length : Int)) = true := decide_eq_true c4
     clear c4
     by_cases c5 : 0 ≤ x5_1
     rotate_left
     ·rw [if_neg c5] at H
      exact absurd H (by simp)
     rw [if_pos c5] at H
     have c5b0 : decide (0 ≤ x5_1) = true := decide_eq_true c5
     clear c5
     by_cases c6 : x5_1 < (l1.length : Int)
     rotate_left
     ·rw [if_neg c6] at H
      exact absurd H (by simp)
     rw [if_pos c6] at H
     have c6b0 : decide (x5_1 < (l1.length : Int)) = true := decide_eq_true c6
     clear c6
     by_cases c7 : (!((((rd_T45 l0 x5_1).f0).toList) == (((rd_T45 l1 x5_1).f0).toList)) || (!(((rd_T45 l0 x5_1).f1) == ((rd_T45 l1 x5_1).f1)) || (!(((rd_T45 l0 x5_1).f2) == ((rd_T45 l1 x5_1).f2)) || (!(((rd_T45 l0 x5_1).f3) == ((rd_T45 l1 x5_1).f3)) || (!(((rd_T45 l0 x5_1).f4) == ((rd_T45 l1 x5_1).f4)) || (!(((rd_T45 l0 x5_1).f5) == ((rd_T45 l1 x5_1).f5)) || (!(((rd_T45 l0 x5_1).f6) == ((rd_T45 l1 x5_1).f6)) || (!((((rd_T45 l0 x5_1).f7).toList) == (((rd_T45 l1 x5_1).f7).toList)))))))))) = true
     ·rw [if_pos c7] at H
      have c7b0 : (!((((rd_T45 l0 x5_1).f0).toList) == (((rd_T45 l1 x5_1).f0).toList)) || (!(((rd_T45 l0 x5_1).f1) == ((rd_T45 l1 x5_1).f1)) || (!(((rd_T45 l0 x5_1).f2) == ((rd_T45 l1 x5_1).f2)) || (!(((rd_T45 l0 x5_1).f3) == ((rd_T45 l1 x5_1).f3)) || (!(((rd_T45 l0 x5_1).f4) == ((rd_T45 l1 x5_1).f4)) || (!(((rd_T45 l0 x5_1).f5) == ((rd_T45 l1 x5_1).f5)) || (!(((rd_T45 l0 x5_1).f6) == ((rd_T45 l1 x5_1).f6)) || (!((((rd_T45 l0 x5_1).f7).toList) == (((rd_T45 l1 x5_1).f7).toList)))))))))) = true := c7
      clear c7
      obtain rfl := Option.some.inj H
      have p155 : 0 ≤ (x5_1 : Int) := of_decide_eq_true (by first | (with_reducible assumption) | assumption)
      have q155 : x5_1 < (l0.length : Int) := of_decide_eq_true (by first | (with_reducible assumption) | assumption)
      obtain ⟨ad155, e155, hx155_0, hx155_1, hx155_2, hx155_3, hx155_4, hx155_5, hx155_6, hx155_7⟩ := at_T45 HR0.out x5_1 p155 q155
      cases e155
      replace p155 := eq_true p155
      replace q155 := eq_true q155
      have p156 : 0 ≤ (x5_1 : Int) := of_decide_eq_true (by first | (with_reducible assumption) | assumption)
      have q156 : x5_1 < (l1.length : Int) := of_decide_eq_true (by first | (with_reducible assumption) | assumption)
      obtain ⟨ad156, e156, hx156_0, hx156_1, hx156_2, hx156_3, hx156_4, hx156_5, hx156_6, hx156_7⟩ := at_T45 HR1.out x5_1 p156 q156
      cases e156
      replace p156 := eq_true p156
      replace q156 := eq_true q156
      go_wp2
      repeat (go_quiet (fail); try go_wp2)
      go_ret
      exact ⟨by first | rfl | (simp; done) | (simp [*]; done), by repeat (first | exact Drawn0.refl _ | apply Drawn0.step)⟩
     ·rw [if_neg c7] at H
      have c7b0 : (!((((rd_T45 l0 x5_1).f0).toList) == (((rd_T45 l1 x5_1).f0).toList)) || (!(((rd_T45 l0 x5_1).f1) == ((rd_T45 l1 x5_1).f1)) || (!(((rd_T45 l0 x5_1).f2) == ((rd_T45 l1 x5_1).f2)) || (!(((rd_T45 l0 x5_1).f3) == ((rd_T45 l1 x5_1).f3)) || (!(((rd_T45 l0 x5_1).f4) == ((rd_T45 l1 x5_1).f4)) || (!(((rd_T45 l0 x5_1).f5) == ((rd_T45 l1 x5_1).f5)) || (!(((rd_T45 l0 x5_1).f6) == ((rd_T45 l1 x5_1).f6)) || (!((((rd_T45 l0 x5_1).f7).toList) == (((rd_T45 l1 x5_1).f7).toList)))))))))) = false := by simpa using c7
      clear c7
      have H' := Aside0.mk H
      clear H
      have p155 : 0 ≤ (x5_1 : Int) := of_decide_eq_true (by first | (with_reducible assumption) | assumption)
      have q155 : x5_1 < (l0.length : Int) := of_decide_eq_true (by first | (with_reducible assumption) | assumption)
      obtain ⟨ad155, e155, hx155_0, hx155_1, hx155_2, hx155_3, hx155_4, hx155_5, hx155_6, hx155_7⟩ := at_T45 HR0.out x5_1 p155 q155
      cases e155
      replace p155 := eq_true p155
      replace q155 := eq_true q155
      have p156 : 0 ≤ (x5_1 : Int) := of_decide_eq_true (by first | (with_reducible assumption) | assumption)
      have q156 : x5_1 < (l1.length : Int) := of_decide_eq_true (by first | (with_reducible assumption) | assumption)
      obtain ⟨ad156, e156, hx156_0, hx156_1, hx156_2, hx156_3, hx156_4, hx156_5, hx156_6, hx156_7⟩ := at_T45 HR1.out x5_1 p156 q156
      cases e156
      replace p156 := eq_true p156
      replace q156 := eq_true q156
      go_wp2
      repeat (go_quiet (fail); try go_wp2)
      go_roundg k1
      case measure => have := HK1.out; omega
      case rel => exact ⟨(wrap64 (x5_1 + 1)), (by first | rfl | (simp; done) | (simp [*]; done)), H', ⟨by have := HK1.out; omega⟩, by repeat (first | exact Drawn0.refl _ | apply Drawn0.step)⟩
    ·rw [if_neg c4] at H
     have c4b0 : decide (x5_1 < (l0.length : Int)) = false := decide_eq_false c4
     clear c4
     obtain rfl := Option.some.inj H
     go_wp2
     repeat (go_quiet (fail); try go_wp2)
     go_ret
     exact ⟨by first | rfl | (simp; done) | (simp [*]; done), by repeat (first | exact Drawn0.refl _ | apply Drawn0.step)⟩
 ·rw [if_neg c3] at H
  have c3b0 : ((l0.length : Int) == (l1.length : Int)) = false := beq_eq_false_iff_ne.mpr c3
  have c3b1 : ((l0.length : Int) != (l1.length : Int)) = true := bne_iff_ne.mpr c3
  have c3b2 : (l0.length == l1.length) = false := by first | simpa using c3 | (simp at c3 ⊢; omega)
  obtain rfl := Option.some.inj H
  go_enter Tryz.func17, Tryz.ntmps17
  go_wp2
  repeat (go_quiet (fail); try go_wp2)
  go_ret
  exact ⟨by first | rfl | (simp; done) | (simp [*]; done), by repeat (first | exact Drawn0.refl _ | apply Drawn0.step)⟩

/-! ### dirrecord_padded: function 75 -/
def dirrecord_padded.f (a0 : Int) : Option (Int) := some (wrap64 ((wrap64 (Int.tdiv (wrap64 ((wrap64 (33 + a0)) + 1)) 2)) * 2))
set_option maxHeartbeats 8000000 in
set_option maxRecDepth 100000 in
theorem dirrecord_padded.calls (a0 : Int) (r : Int) (w : World) (h : dirrecord_padded.f a0 = some r) :
  Calls Tryz.prog 75 #[.int .i64 a0] w fun e w' => e = .returned (.int .i64 r) ∧ Drawn0 w w' := by
 have H : (some (wrap64 ((wrap64 (Int.tdiv (wrap64 ((wrap64 (33 + a0)) + 1)) 2)) * 2))) = some r := h
 clear h
 obtain rfl := Option.some.inj H
 go_enter Tryz.func75, Tryz.ntmps75
 go_wp2
 go_ret
 exact ⟨by first | rfl | (simp; done) | (simp [*]; done), by repeat (first | exact Drawn0.refl _ | apply Drawn0.step)⟩

/-! ### dirrecord_Size: function 66 -/
def dirrecord_Size.j0 : Nat → Int → Int → Bool → Option (Int)
 | 0, _, _, _ => none
 | k + 1, x0, x1, x24 => if x24 = true then (some 0) else ((dirrecord_padded.f x0).bind fun t157 => (if (wrap64 (t157 + x1)) ≤ 254 then (some (wrap64 (t157 + x1))) else (some 0)))
def dirrecord_Size.f (k : Nat) (a0 : Int) (a1 : Int) : Option (Int) := if a0 < 1 then (dirrecord_Size.j0 k a0 a1 true) else (if a0 > 254 then (dirrecord_Size.j0 k a0 a1 true) else (if a1 < 0 then (dirrecord_Size.j0 k a0 a1 true) else (if a1 > 254 then (dirrecord_Size.j0 k a0 a1 true) else (dirrecord_Size.j0 k a0 a1 ((Int.tmod a1 2) != 0)))))
theorem dirrecord_Size.mono_l : ∀ k, (∀ y0 y1 y2, LeO (dirrecord_Size.j0 k y0 y1 y2) (dirrecord_Size.j0 (k + 1) y0 y1 y2))
 | 0 => fun _ _ _ r h => by simp [dirrecord_Size.j0] at h
 | k + 1 => by
  have ih0 := dirrecord_Size.mono_l k
  ·intro y0 y1 y2
   unfold dirrecord_Size.j0
   repeat' first
   | (with_reducible exact ih0 _ _ _)
   | (with_reducible exact LeO.refl _)
   | (with_reducible exact LeO.none _)
   | (with_reducible refine LeO.ite ?_ ?_)
   | (with_reducible refine LeO.bind ?_ (fun _ => ?_))
   | exact ih0 _ _ _
   | exact LeO.none _
   | refine LeO.ite ?_ ?_
   | refine LeO.bind ?_ (fun _ => ?_)
theorem dirrecord_Size.mono : ∀ a0 a1 k, LeO (dirrecord_Size.f k a0 a1) (dirrecord_Size.f (k + 1) a0 a1) := by
 intro a0 a1 k
 have ih0 := dirrecord_Size.mono_l k
 unfold dirrecord_Size.f
 repeat' first
   | (with_reducible exact ih0 _ _ _)
   | (with_reducible exact LeO.refl _)
   | (with_reducible exact LeO.none _)
   | (with_reducible refine LeO.ite ?_ ?_)
   | (with_reducible refine LeO.bind ?_ (fun _ => ?_))
   | exact ih0 _ _ _
   | exact LeO.none _
   | refine LeO.ite ?_ ?_
   | refine LeO.bind ?_ (fun _ => ?_)
set_option maxHeartbeats 8000000 in
set_option maxRecDepth 100000 in
theorem dirrecord_Size.calls (k : Nat) (a0 : Int) (a1 : Int) (r : Int) (w : World) (h : dirrecord_Size.f k a0 a1 = some r) :
  Calls Tryz.prog 66 #[.int .i64 a0, .int .i64 a1] w fun e w' => e = .returned (.int .i64 r) ∧ Drawn0 w w' := by
 have H : (if a0 < 1 then (dirrecord_Size.j0 k a0 a1 true) else (if a0 > 254 then (dirrecord_Size.j0 k a0 a1 true) else (if a1 < 0 then (dirrecord_Size.j0 k a0 a1 true) else (if a1 > 254 then (dirrecord_Size.j0 k a0 a1 true) else (dirrecord_Size.j0 k a0 a1 ((Int.tmod a1 2) != 0)))))) = some r := h
 clear h
 have HC3 := Aside0.mk H
 clear H
 go_enter Tryz.func66, Tryz.ntmps66
 go_upto_region 1 with (fail)
 go_cut [24] (fun v24 wc => ∃ (kq : Nat) (x24_2 : Bool), v24 = .bool x24_2 ∧ Aside0 (dirrecord_Size.j0 kq a0 a1 x24_2 = some r) ∧ Aside0 (kq ≤ k) ∧ Drawn0 w wc)
 case first =>
  have H := HC3.out
  clear HC3
  by_cases c4 : a0 < 1
  ·rw [if_pos c4] at H
   have c4b0 : decide (a0 < 1) = true := decide_eq_true c4
   clear c4
   (first | rw [c4b0] | (simp only [i64_w, i32_w]; rw [c4b0]) | skip)
   have H' := Aside0.mk H
   clear H
   go_wp2
   go_meet
   case rel => exact ⟨_, (true), (by first | rfl | (simp; done) | (simp [*]; done)), H', ⟨by first | omega | exact Nat.le_refl _⟩, by repeat (first | exact Drawn0.refl _ | apply Drawn0.step)⟩
  ·rw [if_neg c4] at H
   have c4b0 : decide (a0 < 1) = false := decide_eq_false c4
   clear c4
   (first | rw [c4b0] | (simp only [i64_w, i32_w]; rw [c4b0]) | skip)
   by_cases c5 : a0 > 254
   ·rw [if_pos c5] at H
    have c5b0 : decide (254 < a0) = true := decide_eq_true c5
    clear c5
    have H' := Aside0.mk H
    clear H
    go_wp2
    go_meet
    case rel => exact ⟨_, (true), (by first | rfl | (simp; done) | (simp [*]; done)), H', ⟨by first | omega | exact Nat.le_refl _⟩, by repeat (first | exact Drawn0.refl _ | apply Drawn0.step)⟩
   ·rw [if_neg c5] at H
    have c5b0 : decide (254 < a0) = false := decide_eq_false c5
    clear c5
    by_cases c6 : a1 < 0
    ·rw [if_pos c6] at H
     have c6b0 : decide (a1 < 0) = true := decide_eq_true c6
     clear c6
     have H' := Aside0.mk H
     clear H
     go_wp2
     go_meet
     case rel => exact ⟨_, (true), (by first | rfl | (simp; done) | (simp [*]; done)), H', ⟨by first | omega | exact Nat.le_refl _⟩, by repeat (first | exact Drawn0.refl _ | apply Drawn0.step)⟩
    ·rw [if_neg c6] at H
     have c6b0 : decide (a1 < 0) = false := decide_eq_false c6
     clear c6
     by_cases c7 : a1 > 254
     ·rw [if_pos c7] at H
      have c7b0 : decide (254 < a1) = true := decide_eq_true c7
      clear c7
      have H' := Aside0.mk H
      clear H
      go_wp2
      go_meet
      case rel => exact ⟨_, (true), (by first | rfl | (simp; done) | (simp [*]; done)), H', ⟨by first | omega | exact Nat.le_refl _⟩, by repeat (first | exact Drawn0.refl _ | apply Drawn0.step)⟩
     ·rw [if_neg c7] at H
      have c7b0 : decide (254 < a1) = false := decide_eq_false c7
      clear c7
      have H' := Aside0.mk H
      clear H
      go_wp2
      go_meet
      case rel => exact ⟨_, (((Int.tmod a1 2) != 0)), (by first | rfl | (simp; done) | (simp [*]; done)), H', ⟨by first | omega | exact Nat.le_refl _⟩, by repeat (first | exact Drawn0.refl _ | apply Drawn0.step)⟩
 case rest =>
  clear HC3
  try clear p2
  try clear c4
  try clear c4b0
  try clear c5
  try clear c5b0
  try clear c6
  try clear c6b0
  try clear c7
  try clear c7b0
  obtain ⟨kq, x24_2, rfl, HA, HJ2, ⟨mc2, rfl⟩⟩ := hcut
  cases kq with
  | zero => exact absurd HA.out (by simp [dirrecord_Size.j0])
  | succ kj2 =>
   have H := HA.out
   clear HA
   simp only [dirrecord_Size.j0] at H
   by_cases c8 : x24_2 = true
   ·subst c8
    have H1 : (some 0) = some r := by rw [if_pos rfl] at H; exact H
    clear H
    have H := H1
    clear H1
    obtain rfl := Option.some.inj H
    go_wp2
    go_ret
    exact ⟨by first | rfl | (simp; done) | (simp [*]; done), by repeat (first | exact Drawn0.refl _ | apply Drawn0.step)⟩
   ·replace c8 := Bool.eq_false_iff.mpr c8
    subst c8
    have H1 : ((dirrecord_padded.f a0).bind fun t157 => (if (wrap64 (t157 + a1)) ≤ 254 then (some (wrap64 (t157 + a1))) else (some 0))) = some r := by rw [if_neg (show ¬ (false = true) by decide)] at H; exact H
    clear H
    have H := H1
    clear H1
    replace H := Option.bind_eq_some_iff.mp H
    obtain ⟨t157, A90, H⟩ := H
    replace H : (if (wrap64 (t157 + a1)) ≤ 254 then (some (wrap64 (t157 + a1))) else (some 0)) = some r := H
    have A9 := Aside0.mk A90
    clear A90
    by_cases c10 : (wrap64 (t157 + a1)) ≤ 254
    ·rw [if_pos c10] at H
     have c10b0 : decide ((wrap64 (t157 + a1)) ≤ 254) = true := decide_eq_true c10
     clear c10
     obtain rfl := Option.some.inj H
     go_wp2_with (first | ((with_reducible refine gate_callee (f := 75) rfl ?_); refine gL (some 26) Tryz.func75 #[.int .i64 a0] ?_; (with_reducible refine (dirrecord_padded.calls a0 t157 _ A9.out).mono ?_); rintro e w' ⟨rfl, ⟨nd, rfl⟩⟩; refine ⟨_, rfl, ?_⟩))
     go_ret
     exact ⟨by first | rfl | (simp; done) | (simp [*]; done), by repeat (first | exact Drawn0.refl _ | apply Drawn0.step)⟩
    ·rw [if_neg c10] at H
     have c10b0 : decide ((wrap64 (t157 + a1)) ≤ 254) = false := decide_eq_false c10
     clear c10
     obtain rfl := Option.some.inj H
     go_wp2_with (first | ((with_reducible refine gate_callee (f := 75) rfl ?_); refine gL (some 26) Tryz.func75 #[.int .i64 a0] ?_; (with_reducible refine (dirrecord_padded.calls a0 t157 _ A9.out).mono ?_); rintro e w' ⟨rfl, ⟨nd, rfl⟩⟩; refine ⟨_, rfl, ?_⟩))
     go_ret
     exact ⟨by first | rfl | (simp; done) | (simp [*]; done), by repeat (first | exact Drawn0.refl _ | apply Drawn0.step)⟩

end Go.Proofs.YthblghfobnhoeaaGreat.A
