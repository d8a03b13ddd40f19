-- Written by a program of this session's, hprint.py, out of the translation. Not trusted: Lean checks it.
import Derived.Test.YtmmghiecjhfijaaZx0
import Derived.Test.YtmmghiecjhfijaaZx4
import Derived.Test.YtmmghiecjhfijaaH1f
namespace Go.Proofs.Ytmmghiecjhfijaa.Z
open Go.RowKit Go.Proofs.Ytmmghiecjhfijaa.H Go.Proofs.YtmmghiecjhfijaaW.PrintWords Go.Proofs.YtmmghiecjhfijaaW.PrintLast Go.Proofs.YtmmghiecjhfijaaW.PrintMore
attribute [local go_sem] max2_int min2_int max_two min_two max_three min_three max_four min_four   -- for this text's walks alone
set_option linter.unusedVariables false
set_option linter.unusedSimpArgs false

/-! ### endian_double: function 106 -/
def endian_double.f (a0 : Int) : Option (Bool) := if a0 = 1 then (some true) else (if a0 = 2 then (some true) else (some (a0 == 4)))
set_option maxHeartbeats 8000000 in
set_option maxRecDepth 100000 in
theorem endian_double.calls (a0 : Int) (r : Bool) (w : World) (h : endian_double.f a0 = some r) :
    Calls Try.prog 106 #[.int .i64 a0] w fun e w' => e = .returned (.bool r) ∧ Drawn0 w w' := by
  have H : (if a0 = 1 then (some true) else (if a0 = 2 then (some true) else (some (a0 == 4)))) = some r := h
  clear h
  by_cases c2 : a0 = 1
  · rw [if_pos c2] at H
    have c2b0 : (a0 == 1) = true := beq_iff_eq.mpr c2
    have c2b1 : (a0 != 1) = false := bne_eq_false_iff_eq.mpr c2
    clear c2
    obtain rfl := Option.some.inj H
    go_enter Try.func106, Try.ntmps106
    go_wp2
    go_ret
    exact ⟨by first | rfl | (simp; done) | (simp [*]; done), by repeat (first | exact Drawn0.refl _ | apply Drawn0.step)⟩
  · rw [if_neg c2] at H
    have c2b0 : (a0 == 1) = false := beq_eq_false_iff_ne.mpr c2
    have c2b1 : (a0 != 1) = true := bne_iff_ne.mpr c2
    by_cases c3 : a0 = 2
    · rw [if_pos c3] at H
      have c3b0 : (a0 == 2) = true := beq_iff_eq.mpr c3
      have c3b1 : (a0 != 2) = false := bne_eq_false_iff_eq.mpr c3
      clear c3
      obtain rfl := Option.some.inj H
      go_enter Try.func106, Try.ntmps106
      go_wp2
      go_ret
      exact ⟨by first | rfl | (simp; done) | (simp [*]; done), by repeat (first | exact Drawn0.refl _ | apply Drawn0.step)⟩
    · rw [if_neg c3] at H
      have c3b0 : (a0 == 2) = false := beq_eq_false_iff_ne.mpr c3
      have c3b1 : (a0 != 2) = true := bne_iff_ne.mpr c3
      obtain rfl := Option.some.inj H
      go_enter Try.func106, Try.ntmps106
      go_wp2
      go_ret
      exact ⟨by first | rfl | (simp; done) | (simp [*]; done), by repeat (first | exact Drawn0.refl _ | apply Drawn0.step)⟩

/-! ### endian_ReadBoth: function 65 -/
def endian_ReadBoth.f (a0 : ByteArray) (a1 : Int) (a2 : Int) : Option (Int × Bool × Int) := (endian_double.f a2).bind fun t135 => (if t135 = true then ((endian_inside.f a0 a1 (wrap64 (2 * a2))).bind fun t136 => (if t136 = true then ((endian_ReadLittle.f a0 a1 a2).bind fun bt137 => ((endian_ReadBig.f a0 (wrap64 (a1 + a2)) a2).bind fun bt139 => (some (bt137.1, (bt137.1 == bt139.1), 0)))) else (some (0, false, 2)))) else (some (0, false, 1)))
set_option maxHeartbeats 8000000 in
set_option maxRecDepth 100000 in
theorem endian_ReadBoth.calls (a0 : ByteArray) (a1 : Int) (a2 : Int) (r1 : Int) (r2 : Bool) (r3 : Int) (w : World) (h : endian_ReadBoth.f a0 a1 a2 = some (r1, r2, r3)) :
    Calls Try.prog 65 #[.string a0, .int .i64 a1, .int .i64 a2] w fun e w' => e = .returned (.tuple #[.int .i64 r1, .bool r2, .int .i64 r3]) ∧ Below w.heap.size w w' := by
  have HB := Aside0.mk (Below.refl w.heap.size w)
  have H : ((endian_double.f a2).bind fun t135 => (if t135 = true then ((endian_inside.f a0 a1 (wrap64 (2 * a2))).bind fun t136 => (if t136 = true then ((endian_ReadLittle.f a0 a1 a2).bind fun bt137 => ((endian_ReadBig.f a0 (wrap64 (a1 + a2)) a2).bind fun bt139 => (some (bt137.1, (bt137.1 == bt139.1), 0)))) else (some (0, false, 2)))) else (some (0, false, 1)))) = some (r1, r2, r3) := h
  clear h
  replace H := Option.bind_eq_some_iff.mp H
  obtain ⟨t135, A40, H⟩ := H
  replace H : (if t135 = true then ((endian_inside.f a0 a1 (wrap64 (2 * a2))).bind fun t136 => (if t136 = true then ((endian_ReadLittle.f a0 a1 a2).bind fun bt137 => ((endian_ReadBig.f a0 (wrap64 (a1 + a2)) a2).bind fun bt139 => (some (bt137.1, (bt137.1 == bt139.1), 0)))) else (some (0, false, 2)))) else (some (0, false, 1))) = some (r1, r2, r3) := H
  have A4 := Aside0.mk A40
  clear A40
  by_cases c5 : t135 = true
  · subst c5
    have H1 : ((endian_inside.f a0 a1 (wrap64 (2 * a2))).bind fun t136 => (if t136 = true then ((endian_ReadLittle.f a0 a1 a2).bind fun bt137 => ((endian_ReadBig.f a0 (wrap64 (a1 + a2)) a2).bind fun bt139 => (some (bt137.1, (bt137.1 == bt139.1), 0)))) else (some (0, false, 2)))) = some (r1, r2, r3) := by rw [if_pos rfl] at H; exact H
    clear H
    have H := H1
    clear H1
    replace H := Option.bind_eq_some_iff.mp H
    obtain ⟨t136, A60, H⟩ := H
    replace H : (if t136 = true then ((endian_ReadLittle.f a0 a1 a2).bind fun bt137 => ((endian_ReadBig.f a0 (wrap64 (a1 + a2)) a2).bind fun bt139 => (some (bt137.1, (bt137.1 == bt139.1), 0)))) else (some (0, false, 2))) = some (r1, r2, r3) := H
    have A6 := Aside0.mk A60
    clear A60
    by_cases c7 : t136 = true
    · subst c7
      have H1 : ((endian_ReadLittle.f a0 a1 a2).bind fun bt137 => ((endian_ReadBig.f a0 (wrap64 (a1 + a2)) a2).bind fun bt139 => (some (bt137.1, (bt137.1 == bt139.1), 0)))) = some (r1, r2, r3) := by rw [if_pos rfl] at H; exact H
      clear H
      have H := H1
      clear H1
      replace H := Option.bind_eq_some_iff.mp H
      obtain ⟨⟨t137, t138⟩, A80, H⟩ := H
      replace H : ((endian_ReadBig.f a0 (wrap64 (a1 + a2)) a2).bind fun bt139 => (some (t137, (t137 == bt139.1), 0))) = some (r1, r2, r3) := H
      have A8 := Aside0.mk A80
      clear A80
      replace H := Option.bind_eq_some_iff.mp H
      obtain ⟨⟨t139, t140⟩, A90, H⟩ := H
      replace H : (some (t137, (t137 == t139), 0)) = some (r1, r2, r3) := H
      have A9 := Aside0.mk A90
      clear A90
      simp only [Option.some.injEq, Prod.mk.injEq] at H
      obtain ⟨rfl, rfl, rfl⟩ := H
      go_enter Try.func65, Try.ntmps65
      go_wp2_with (first | ((with_reducible refine gate_callee (f := 106) rfl ?_); refine goesL_ (some 15) rfl rfl Try.func106 (by kernel_rfl) rfl #[.int .i64 a2] rfl (by (try simp only [List.map_toArray, List.map_cons, List.map_nil]); first | done | rfl | (simp only [List.length_drop, List.length_take]; rfl)) ?_; (with_reducible refine (endian_double.calls a2 true _ A4.out).mono ?_); rintro e w' ⟨rfl, ⟨nd, rfl⟩⟩; refine ⟨_, rfl, ?_⟩) | ((with_reducible refine gate_callee (f := 124) rfl ?_); refine goesL_ (some 22) rfl rfl Try.func124 (by kernel_rfl) rfl #[.string a0, .int .i64 a1, .int .i64 (wrap64 (2 * a2))] rfl (by (try simp only [List.map_toArray, List.map_cons, List.map_nil]); first | done | rfl | (simp only [List.length_drop, List.length_take]; rfl)) ?_; (with_reducible refine (endian_inside.calls a0 a1 (wrap64 (2 * a2)) true _ A6.out).mono ?_); rintro e w' ⟨rfl, ⟨nd, rfl⟩⟩; refine ⟨_, rfl, ?_⟩) | ((with_reducible refine gate_callee (f := 62) rfl ?_); refine goesL_ (some 28) rfl rfl Try.func62 (by kernel_rfl) rfl #[.string a0, .int .i64 a1, .int .i64 a2] rfl (by (try simp only [List.map_toArray, List.map_cons, List.map_nil]); first | done | rfl | (simp only [List.length_drop, List.length_take]; rfl)) ?_; (with_reducible refine (endian_ReadLittle.calls a0 a1 a2 t137 t138 _ A8.out).mono ?_); rintro e w10 ⟨rfl, hb⟩; refine ⟨_, rfl, ?_⟩; have n0_ := Aside0.mk (below_step (by repeat (first | (with_reducible first | exact HB.out | apply below_alloc | apply pw_below_drewN | apply below_drew1) | exact HB.out)) hb); clear HB; have HB := n0_; clear n0_; (try clear hb); (try clear hb2); (try clear hk); (try clear hi)) | ((with_reducible refine gate_callee (f := 88) rfl ?_); refine goesL_ (some 37) rfl rfl Try.func88 (by kernel_rfl) rfl #[.string a0, .int .i64 (wrap64 (a1 + a2)), .int .i64 a2] rfl (by (try simp only [List.map_toArray, List.map_cons, List.map_nil]); first | done | rfl | (simp only [List.length_drop, List.length_take]; rfl)) ?_; (with_reducible refine (endian_ReadBig.calls a0 (wrap64 (a1 + a2)) a2 t139 t140 _ A9.out).mono ?_); rintro e w11 ⟨rfl, hb⟩; refine ⟨_, rfl, ?_⟩; have n0_ := Aside0.mk (below_step (by repeat (first | (with_reducible first | exact HB.out | apply below_alloc | apply pw_below_drewN | apply below_drew1) | exact HB.out)) hb); clear HB; have HB := n0_; clear n0_; (try clear hb); (try clear hb2); (try clear hk); (try clear hi)))
      go_ret3
      exact ⟨by first | rfl | (simp [errW_none, errW_some] <;> rfl) | (simp [*, errW_none, errW_some] <;> rfl), by repeat (first | (with_reducible first | exact HB.out | apply below_alloc | apply pw_below_drewN | apply below_drew1) | exact HB.out)⟩
    · replace c7 := Bool.eq_false_iff.mpr c7
      subst c7
      have H1 : (some (0, false, 2)) = some (r1, r2, r3) := by rw [if_neg (show ¬ (false = true) by decide)] at H; exact H
      clear H
      have H := H1
      clear H1
      simp only [Option.some.injEq, Prod.mk.injEq] at H
      obtain ⟨rfl, rfl, rfl⟩ := H
      go_enter Try.func65, Try.ntmps65
      go_wp2_with (first | ((with_reducible refine gate_callee (f := 106) rfl ?_); refine goesL_ (some 15) rfl rfl Try.func106 (by kernel_rfl) rfl #[.int .i64 a2] rfl (by (try simp only [List.map_toArray, List.map_cons, List.map_nil]); first | done | rfl | (simp only [List.length_drop, List.length_take]; rfl)) ?_; (with_reducible refine (endian_double.calls a2 true _ A4.out).mono ?_); rintro e w' ⟨rfl, ⟨nd, rfl⟩⟩; refine ⟨_, rfl, ?_⟩) | ((with_reducible refine gate_callee (f := 124) rfl ?_); refine goesL_ (some 22) rfl rfl Try.func124 (by kernel_rfl) rfl #[.string a0, .int .i64 a1, .int .i64 (wrap64 (2 * a2))] rfl (by (try simp only [List.map_toArray, List.map_cons, List.map_nil]); first | done | rfl | (simp only [List.length_drop, List.length_take]; rfl)) ?_; (with_reducible refine (endian_inside.calls a0 a1 (wrap64 (2 * a2)) false _ A6.out).mono ?_); rintro e w' ⟨rfl, ⟨nd, rfl⟩⟩; refine ⟨_, rfl, ?_⟩))
      go_ret3
      exact ⟨by first | rfl | (simp [errW_none, errW_some] <;> rfl) | (simp [*, errW_none, errW_some] <;> rfl), by repeat (first | (with_reducible first | exact HB.out | apply below_alloc | apply pw_below_drewN | apply below_drew1) | exact HB.out)⟩
  · replace c5 := Bool.eq_false_iff.mpr c5
    subst c5
    have H1 : (some (0, false, 1)) = some (r1, r2, r3) := by rw [if_neg (show ¬ (false = true) by decide)] at H; exact H
    clear H
    have H := H1
    clear H1
    simp only [Option.some.injEq, Prod.mk.injEq] at H
    obtain ⟨rfl, rfl, rfl⟩ := H
    go_enter Try.func65, Try.ntmps65
    go_wp2_with (first | ((with_reducible refine gate_callee (f := 106) rfl ?_); refine goesL_ (some 15) rfl rfl Try.func106 (by kernel_rfl) rfl #[.int .i64 a2] rfl (by (try simp only [List.map_toArray, List.map_cons, List.map_nil]); first | done | rfl | (simp only [List.length_drop, List.length_take]; rfl)) ?_; (with_reducible refine (endian_double.calls a2 false _ A4.out).mono ?_); rintro e w' ⟨rfl, ⟨nd, rfl⟩⟩; refine ⟨_, rfl, ?_⟩))
    go_ret3
    exact ⟨by first | rfl | (simp [errW_none, errW_some] <;> rfl) | (simp [*, errW_none, errW_some] <;> rfl), by repeat (first | (with_reducible first | exact HB.out | apply below_alloc | apply pw_below_drewN | apply below_drew1) | exact HB.out)⟩

/-! ### dirrecord_Differ: function 26 -/
def dirrecord_Differ.l0 : Nat → ByteArray → List Int → List Int → Int → Int → Option (List Int)
  | 0, _, _, _, _, _ => none
  | k + 1, x0, x3, x13, x14, x15 => if x15 < x14 then (if 0 ≤ x15 then (if x15 < (x13.length : Int) then (if (rd x13 x15) = 28 then ((endian_ReadBoth.f x0 (rd x13 x15) 2).bind fun bt145 => (if bt145.2.1 = true then (dirrecord_Differ.l0 k x0 x3 x13 x14 (wrap64 (x15 + 1))) else (if x3.length < 17592186044416 then (dirrecord_Differ.l0 k x0 (x3 ++ [rd x13 x15]) x13 x14 (wrap64 (x15 + 1))) else (none)))) else ((endian_ReadBoth.f x0 (rd x13 x15) 4).bind fun bt151 => (if bt151.2.1 = true then (dirrecord_Differ.l0 k x0 x3 x13 x14 (wrap64 (x15 + 1))) else (if x3.length < 17592186044416 then (dirrecord_Differ.l0 k x0 (x3 ++ [rd x13 x15]) x13 x14 (wrap64 (x15 + 1))) else (none))))) else (none)) else (none)) else (some x3)
def dirrecord_Differ.f (k : Nat) (a0 : ByteArray) : Option (List Int) := if (a0.size : Int) < 34 then (some ([] : List Int)) else ((some (([2, 10, 28] : List Int) : List Int)).bind fun y141 => (dirrecord_Differ.l0 k a0 ([] : List Int) y141 (y141.length : Int) 0))
theorem dirrecord_Differ.mono_l : ∀ k, (∀ y0 y1 y2 y3 y4, LeO (dirrecord_Differ.l0 k y0 y1 y2 y3 y4) (dirrecord_Differ.l0 (k + 1) y0 y1 y2 y3 y4))
  | 0 => fun _ _ _ _ _ r h => by simp [dirrecord_Differ.l0] at h
  | k + 1 => by
    have ih0 := dirrecord_Differ.mono_l k
    · intro y0 y1 y2 y3 y4
      unfold dirrecord_Differ.l0
      repeat' first
      | (with_reducible exact ih0 _ _ _ _ _)
      | (with_reducible exact LeO.refl _)
      | (with_reducible exact LeO.none _)
      | (with_reducible refine LeO.ite ?_ ?_)
      | (with_reducible refine LeO.bind ?_ (fun _ => ?_))
      | exact ih0 _ _ _ _ _
      | exact LeO.none _
      | refine LeO.ite ?_ ?_
      | refine LeO.bind ?_ (fun _ => ?_)
theorem dirrecord_Differ.mono : ∀ a0 k, LeO (dirrecord_Differ.f k a0) (dirrecord_Differ.f (k + 1) a0) := by
  intro a0 k
  have ih0 := dirrecord_Differ.mono_l k
  unfold dirrecord_Differ.f
  repeat' first
      | (with_reducible exact ih0 _ _ _ _ _)
      | (with_reducible exact LeO.refl _)
      | (with_reducible exact LeO.none _)
      | (with_reducible refine LeO.ite ?_ ?_)
      | (with_reducible refine LeO.bind ?_ (fun _ => ?_))
      | exact ih0 _ _ _ _ _
      | exact LeO.none _
      | refine LeO.ite ?_ ?_
      | refine LeO.bind ?_ (fun _ => ?_)
set_option maxHeartbeats 8000000 in
set_option maxRecDepth 100000 in
theorem dirrecord_Differ.calls (k : Nat) (a0 : ByteArray) (r : List Int) (w : World) (h : dirrecord_Differ.f k a0 = some r) :
    Calls Try.prog 26 #[.string a0] w fun e w' => ∃ v0_ : Value, e = .returned (v0_) ∧ Kd.R (Kd.int .i64) 3 w' w.heap.size (fun _ => True) v0_ r ∧ Below w.heap.size w w' := by
  have HB := Aside0.mk (Below.refl w.heap.size w)
  have H : (if (a0.size : Int) < 34 then (some ([] : List Int)) else ((some (([2, 10, 28] : List Int) : List Int)).bind fun y141 => (dirrecord_Differ.l0 k a0 ([] : List Int) y141 (y141.length : Int) 0))) = some r := h
  clear h
  by_cases c2 : (a0.size : Int) < 34
  · rw [if_pos c2] at H
    have c2b0 : decide ((a0.size : Int) < 34) = true := decide_eq_true c2
    have c2b1 : decide (a0.size < 34) = true := decide_eq_true (by omega)
    clear c2
    obtain rfl := Option.some.inj H
    go_enter Try.func26, Try.ntmps26
    go_wp2
    go_ret
    exact ⟨_, by first | rfl | (simp [errW_none, errW_some] <;> rfl) | (simp [*, errW_none, errW_some] <;> rfl), by first | exact Kd.R_nil _ _ _ _ _ | exact Kd.N_nil _ _ _ _ _ | exact Kd.V_nil _ _ _ _ _ | exact Kd.Q_nil _ _ _ _ _ | exact Kd.S_nil _ _ _ _ _, by repeat (first | (with_reducible first | exact HB.out | apply below_alloc | apply pw_below_drewN | apply below_drew1) | exact HB.out)⟩
  · rw [if_neg c2] at H
    have c2b0 : decide ((a0.size : Int) < 34) = false := decide_eq_false c2
    have c2b1 : decide (a0.size < 34) = false := decide_eq_false (by omega)
    clear c2
    obtain ⟨y141, hy141⟩ : ∃ y_ : List Int, y_ = (([2, 10, 28] : List Int)) := ⟨_, rfl⟩
    replace H : (dirrecord_Differ.l0 k a0 ([] : List Int) y141 (y141.length : Int) 0) = some r := by first | (rw [hy141]; with_reducible exact H) | (have H2_ := (Option.bind_some _ _).symm.trans H; rw [hy141]; with_reducible exact H2_) | (have H2_ := (Option.bind_some _ _).symm.trans H; with_reducible exact H2_) | with_reducible exact H | (rw [hy141]; exact H) | exact H
    have Ny141 := Aside0.mk hy141
    clear hy141
    have H' := Aside0.mk H
    clear H
    go_enter Try.func26, Try.ntmps26
    go_wp2_with (first | ((with_reducible refine gate_dst (N := 13) rfl ?_); refine Kd.R_lit (Kd.int .i64) _ 3 ?hg (N := 13) ?hd (xs := ([2, 10, 28] : List Int)) (inner := [.int .i64 2, .int .i64 10, .int .i64 28]) (ok := fun _ => True) (okp := fun _ => True) ?hr ?hp (fun _ hk => hk) trivial (Below.refl _ _) (Nat.le_refl _) (by simp) ?_; (case hd => rfl); (case hg => rfl); (case hr => first | (go_simp; done) | (go_simp; rfl)); (case hp => exact (Reps.one (show Kd.M (Kd.int .i64) _ _ _ 2 [.int .i64 2] from rfl) (Reps.one (show Kd.M (Kd.int .i64) _ _ _ 10 [.int .i64 10] from rfl) (Reps.one (show Kd.M (Kd.int .i64) _ _ _ 28 [.int .i64 28] from rfl) (Reps.none _ _))))); intro v142 w3 ho4 hb hg_ hnew_; clear hg_ hnew_; (first | rw [← Ny141.out] at ho4 | (simp only [Int.reduceToNat] at ho4; rw [← Ny141.out] at ho4)); have n0_ := Aside0.mk (Kd.R_lower ho4 (below_size (by repeat (first | (with_reducible first | exact HB.out | apply below_alloc | apply pw_below_drewN | apply below_drew1) | exact HB.out)))); have n1_ := Aside0.mk (below_step (by repeat (first | (with_reducible first | exact HB.out | apply below_alloc | apply pw_below_drewN | apply below_drew1) | exact HB.out)) hb); clear HB; have HO143 := n0_; have HB := n1_; clear n0_ n1_; clear hb ho4; obtain ⟨Ao5, co5, eo5⟩ := Kd.R_slice HO143.out; subst eo5))
    go_loopg [3, 15] k (fun kq v3 v15 w' => ∃ (x3_1 : List Int) (x15_1 : Int), v15 = .int .i64 x15_1 ∧ Aside0 (dirrecord_Differ.l0 kq a0 x3_1 y141 (y141.length : Int) x15_1 = some r) ∧ Aside0 (kq ≤ k) ∧ Aside0 (Kd.R (Kd.int .i64) 3 w' w.heap.size (fun k_ => some k_ ≠ ((.slice Ao5 y141.length co5) : Value).ownBlock) v3 x3_1) ∧ Aside0 (Kd.R (Kd.int .i64) 3 w' w.heap.size (fun k_ => some k_ ≠ (v3 : Value).ownBlock) (.slice Ao5 y141.length co5) y141) ∧ Aside0 (Below w.heap.size w w'))
    case atStart => exact ⟨(([] : List Int)), (0), (by first | rfl | (simp; done) | (simp [*]; done)), H', ⟨Nat.le_refl _⟩, ⟨by first | exact Kd.R_nil _ _ _ _ _ | exact Kd.N_nil _ _ _ _ _ | exact Kd.V_nil _ _ _ _ _ | exact Kd.Q_nil _ _ _ _ _ | exact Kd.S_nil _ _ _ _ _⟩, ⟨by (with_reducible repeat (first | apply Kd.R_alloc | apply Kd.R_drewN | apply Kd.R_drew)); exact Kd.R_mono HO143.out (fun _ hk => (by simp [Value.ownBlock]))⟩, ⟨by repeat (first | (with_reducible first | exact HB.out | apply below_alloc | apply pw_below_drewN | apply below_drew1) | exact HB.out)⟩⟩
    case round =>
      clear H'
      try clear c2
      try clear c2b0
      try clear c2b1
      try clear p2
      obtain ⟨x3_1, x15_1, rfl, HA, HK1, HO_3, HO_13, HB⟩ := hrel
      cases gk with
      | zero => exact absurd HA.out (by simp [dirrecord_Differ.l0])
      | succ k1 =>
        have H := HA.out
        clear HA
        simp only [dirrecord_Differ.l0] at H
        by_cases c6 : x15_1 < (y141.length : Int)
        · rw [if_pos c6] at H
          have c6b0 : decide (x15_1 < (y141.length : Int)) = true := decide_eq_true c6
          clear c6
          by_cases c7 : 0 ≤ x15_1
          · rw [if_pos c7] at H
            have c7b0 : decide (0 ≤ x15_1) = true := decide_eq_true c7
            clear c7
            by_cases c8 : x15_1 < (y141.length : Int)
            · rw [if_pos c8] at H
              have c8b0 : decide (x15_1 < (y141.length : Int)) = true := decide_eq_true c8
              clear c8
              by_cases c9 : (rd y141 x15_1) = 28
              · rw [if_pos c9] at H
                have c9b0 : ((rd y141 x15_1) == 28) = true := beq_iff_eq.mpr c9
                have c9b1 : ((rd y141 x15_1) != 28) = false := bne_eq_false_iff_eq.mpr c9
                clear c9
                replace H := Option.bind_eq_some_iff.mp H
                obtain ⟨⟨t145, t146, t147⟩, A100, H⟩ := H
                replace H : (if t146 = true then (dirrecord_Differ.l0 k1 a0 x3_1 y141 (y141.length : Int) (wrap64 (x15_1 + 1))) else (if x3_1.length < 17592186044416 then (dirrecord_Differ.l0 k1 a0 (x3_1 ++ [rd y141 x15_1]) y141 (y141.length : Int) (wrap64 (x15_1 + 1))) else (none))) = some r := H
                have A10 := Aside0.mk A100
                clear A100
                by_cases c11 : t146 = true
                · subst c11
                  have H1 : (dirrecord_Differ.l0 k1 a0 x3_1 y141 (y141.length : Int) (wrap64 (x15_1 + 1))) = some r := by rw [if_pos rfl] at H; exact H
                  clear H
                  have H := H1
                  clear H1
                  have H' := Aside0.mk H
                  clear H
                  have p144 : 0 ≤ (x15_1 : Int) := of_decide_eq_true (by first | (with_reducible assumption) | assumption)
                  have q144 : x15_1 < (y141.length : Int) := of_decide_eq_true (by first | (with_reducible assumption) | assumption)
                  obtain ⟨ad144, e144, hx144_0⟩ := Kd.at_int (Kd.R_reads' HO_13.out).2.2 x15_1 p144 q144
                  cases e144
                  replace p144 := eq_true p144
                  replace q144 := eq_true q144
                  go_wp2_with (first | ((with_reducible refine gate_callee (f := 65) rfl ?_); refine goesL_ (some 25) rfl rfl Try.func65 (by kernel_rfl) rfl #[.string a0, .int .i64 (rd y141 x15_1), .int .i64 2] rfl (by (try simp only [List.map_toArray, List.map_cons, List.map_nil]); first | done | rfl | (simp only [List.length_drop, List.length_take]; rfl)) ?_; (with_reducible refine (endian_ReadBoth.calls a0 (rd y141 x15_1) 2 t145 true t147 _ A10.out).mono ?_); rintro e w12 ⟨rfl, hb⟩; refine ⟨_, rfl, ?_⟩; have n0_ := Aside0.mk (Kd.R_below (by (with_reducible repeat (first | apply Kd.R_alloc | apply Kd.R_drewN | apply Kd.R_drew)); exact HO_3.out) hb); have n1_ := Aside0.mk (Kd.R_below (by (with_reducible repeat (first | apply Kd.R_alloc | apply Kd.R_drewN | apply Kd.R_drew)); exact HO_13.out) hb); have n2_ := Aside0.mk (below_step (by repeat (first | (with_reducible first | exact HB.out | apply below_alloc | apply pw_below_drewN | apply below_drew1) | exact HB.out)) hb); clear HO_3; clear HO_13; clear HB; have HO_3 := n0_; have HO_13 := n1_; have HB := n2_; clear n0_ n1_ n2_; (try clear hb); (try clear hb2); (try clear hk); (try clear hi)))
                  go_roundg k1
                  case measure => have := HK1.out; omega
                  case rel => exact ⟨(x3_1), (wrap64 (x15_1 + 1)), (by first | rfl | (simp; done) | (simp [*]; done)), H', ⟨by have := HK1.out; omega⟩, ⟨by (with_reducible repeat (first | apply Kd.R_alloc | apply Kd.R_drewN | apply Kd.R_drew)); exact HO_3.out⟩, ⟨by (with_reducible repeat (first | apply Kd.R_alloc | apply Kd.R_drewN | apply Kd.R_drew)); exact HO_13.out⟩, ⟨by repeat (first | (with_reducible first | exact HB.out | apply below_alloc | apply pw_below_drewN | apply below_drew1) | exact HB.out)⟩⟩
                · replace c11 := Bool.eq_false_iff.mpr c11
                  subst c11
                  have H1 : (if x3_1.length < 17592186044416 then (dirrecord_Differ.l0 k1 a0 (x3_1 ++ [rd y141 x15_1]) y141 (y141.length : Int) (wrap64 (x15_1 + 1))) else (none)) = some r := by rw [if_neg (show ¬ (false = true) by decide)] at H; exact H
                  clear H
                  have H := H1
                  clear H1
                  by_cases c13 : x3_1.length < 17592186044416
                  · rw [if_pos c13] at H
                    have LMc13 := Aside0.mk c13
                    clear c13
                    obtain ⟨y148, hy148⟩ : ∃ y_ : List Int, y_ = (x3_1 ++ [rd y141 x15_1]) := ⟨_, rfl⟩
                    replace H : (dirrecord_Differ.l0 k1 a0 y148 y141 (y141.length : Int) (wrap64 (x15_1 + 1))) = some r := by first | (rw [hy148]; with_reducible exact H) | (have H2_ := (Option.bind_some _ _).symm.trans H; rw [hy148]; with_reducible exact H2_) | (have H2_ := (Option.bind_some _ _).symm.trans H; with_reducible exact H2_) | with_reducible exact H | (rw [hy148]; exact H) | exact H
                    have Ny148 := Aside0.mk hy148
                    clear hy148
                    have H' := Aside0.mk H
                    clear H
                    have p144 : 0 ≤ (x15_1 : Int) := of_decide_eq_true (by first | (with_reducible assumption) | assumption)
                    have q144 : x15_1 < (y141.length : Int) := of_decide_eq_true (by first | (with_reducible assumption) | assumption)
                    obtain ⟨ad144, e144, hx144_0⟩ := Kd.at_int (Kd.R_reads' HO_13.out).2.2 x15_1 p144 q144
                    cases e144
                    replace p144 := eq_true p144
                    replace q144 := eq_true q144
                    go_wp2_with (first | ((with_reducible refine gate_callee (f := 65) rfl ?_); refine goesL_ (some 25) rfl rfl Try.func65 (by kernel_rfl) rfl #[.string a0, .int .i64 (rd y141 x15_1), .int .i64 2] rfl (by (try simp only [List.map_toArray, List.map_cons, List.map_nil]); first | done | rfl | (simp only [List.length_drop, List.length_take]; rfl)) ?_; (with_reducible refine (endian_ReadBoth.calls a0 (rd y141 x15_1) 2 t145 false t147 _ A10.out).mono ?_); rintro e w14 ⟨rfl, hb⟩; refine ⟨_, rfl, ?_⟩; have n0_ := Aside0.mk (Kd.R_below (by (with_reducible repeat (first | apply Kd.R_alloc | apply Kd.R_drewN | apply Kd.R_drew)); exact HO_3.out) hb); have n1_ := Aside0.mk (Kd.R_below (by (with_reducible repeat (first | apply Kd.R_alloc | apply Kd.R_drewN | apply Kd.R_drew)); exact HO_13.out) hb); have n2_ := Aside0.mk (below_step (by repeat (first | (with_reducible first | exact HB.out | apply below_alloc | apply pw_below_drewN | apply below_drew1) | exact HB.out)) hb); clear HO_3; clear HO_13; clear HB; have HO_3 := n0_; have HO_13 := n1_; have HB := n2_; clear n0_ n1_ n2_; (try clear hb); (try clear hb2); (try clear hk); (try clear hi)) | ((with_reducible refine gate_builtin (b := .append) (xs := #[.tmp 31, .tmp 33]) rfl ?_); at_builtin; refine Kd.R_append (Kd.int .i64) (w0 := w) w.heap.size rfl (.tmp 31) (.tmp 33) 33 3 (.int .i64 0) 8 rfl Try.underlying33 info3 rfl (by decide) (by omega) u3 x3_1 (rd y141 x15_1) [.int .i64 (rd y141 x15_1)] (fun k_ => some k_ ≠ (.slice (some ad144) y141.length co5 : Value).ownBlock) (fun _ => False) rfl rfl ?aP (fun _ hk => hk.elim) ?aF ?aO ?aB ?aS ?aL ?_; (case aP => exact rfl); (case aB => exact (by repeat (first | (with_reducible first | exact HB.out | apply below_alloc | apply pw_below_drewN | apply below_drew1) | exact HB.out))); (case aF => exact (fun k_ hk => Kd.fresh' (Kd.R_lt (by (with_reducible repeat (first | apply Kd.R_alloc | apply Kd.R_drewN | apply Kd.R_drew)); exact HO_13.out)) k_ hk)); (case aO => exact (by (with_reducible repeat (first | apply Kd.R_alloc | apply Kd.R_drewN | apply Kd.R_drew)); exact HO_3.out)); (case aS => exact (below_size (by repeat (first | (with_reducible first | exact HB.out | apply below_alloc | apply pw_below_drewN | apply below_drew1) | exact HB.out)))); (case aL => have := LMc13.out; omega); intro v149 w15 ho hb hg hat; rw [← Ny148.out] at ho; have n0_ := Aside0.mk (Kd.R_after (ok := (fun _ => True)) (by (with_reducible repeat (first | apply Kd.R_alloc | apply Kd.R_drewN | apply Kd.R_drew)); exact Kd.R_mono HO_13.out (fun _ hk => ⟨trivial, hk⟩)) hg hat); have n1_ := Aside0.mk (hb); have n2_ := Aside0.mk (ho); clear HO_13; clear HB; clear HO_3; have HO_13 := n0_; have HB := n1_; have HO150 := n2_; clear n0_ n1_ n2_; clear ho hb hg hat))
                    go_roundg k1
                    case measure => have := HK1.out; omega
                    case rel => exact ⟨(y148), (wrap64 (x15_1 + 1)), (by first | rfl | (simp; done) | (simp [*]; done)), H', ⟨by have := HK1.out; omega⟩, ⟨by (with_reducible repeat (first | apply Kd.R_alloc | apply Kd.R_drewN | apply Kd.R_drew)); exact HO150.out⟩, ⟨by (with_reducible repeat (first | apply Kd.R_alloc | apply Kd.R_drewN | apply Kd.R_drew)); exact Kd.R_mono HO_13.out (fun _ hk => hk.2)⟩, ⟨by repeat (first | (with_reducible first | exact HB.out | apply below_alloc | apply pw_below_drewN | apply below_drew1) | exact HB.out)⟩⟩
                  · rw [if_neg c13] at H
                    exact absurd H (by simp)
              · rw [if_neg c9] at H
                have c9b0 : ((rd y141 x15_1) == 28) = false := beq_eq_false_iff_ne.mpr c9
                have c9b1 : ((rd y141 x15_1) != 28) = true := bne_iff_ne.mpr c9
                replace H := Option.bind_eq_some_iff.mp H
                obtain ⟨⟨t151, t152, t153⟩, A160, H⟩ := H
                replace H : (if t152 = true then (dirrecord_Differ.l0 k1 a0 x3_1 y141 (y141.length : Int) (wrap64 (x15_1 + 1))) else (if x3_1.length < 17592186044416 then (dirrecord_Differ.l0 k1 a0 (x3_1 ++ [rd y141 x15_1]) y141 (y141.length : Int) (wrap64 (x15_1 + 1))) else (none))) = some r := H
                have A16 := Aside0.mk A160
                clear A160
                by_cases c17 : t152 = true
                · subst c17
                  have H1 : (dirrecord_Differ.l0 k1 a0 x3_1 y141 (y141.length : Int) (wrap64 (x15_1 + 1))) = some r := by rw [if_pos rfl] at H; exact H
                  clear H
                  have H := H1
                  clear H1
                  have H' := Aside0.mk H
                  clear H
                  have p144 : 0 ≤ (x15_1 : Int) := of_decide_eq_true (by first | (with_reducible assumption) | assumption)
                  have q144 : x15_1 < (y141.length : Int) := of_decide_eq_true (by first | (with_reducible assumption) | assumption)
                  obtain ⟨ad144, e144, hx144_0⟩ := Kd.at_int (Kd.R_reads' HO_13.out).2.2 x15_1 p144 q144
                  cases e144
                  replace p144 := eq_true p144
                  replace q144 := eq_true q144
                  go_wp2_with (first | ((with_reducible refine gate_callee (f := 65) rfl ?_); refine goesL_ (some 25) rfl rfl Try.func65 (by kernel_rfl) rfl #[.string a0, .int .i64 (rd y141 x15_1), .int .i64 4] rfl (by (try simp only [List.map_toArray, List.map_cons, List.map_nil]); first | done | rfl | (simp only [List.length_drop, List.length_take]; rfl)) ?_; (with_reducible refine (endian_ReadBoth.calls a0 (rd y141 x15_1) 4 t151 true t153 _ A16.out).mono ?_); rintro e w18 ⟨rfl, hb⟩; refine ⟨_, rfl, ?_⟩; have n0_ := Aside0.mk (Kd.R_below (by (with_reducible repeat (first | apply Kd.R_alloc | apply Kd.R_drewN | apply Kd.R_drew)); exact HO_3.out) hb); have n1_ := Aside0.mk (Kd.R_below (by (with_reducible repeat (first | apply Kd.R_alloc | apply Kd.R_drewN | apply Kd.R_drew)); exact HO_13.out) hb); have n2_ := Aside0.mk (below_step (by repeat (first | (with_reducible first | exact HB.out | apply below_alloc | apply pw_below_drewN | apply below_drew1) | exact HB.out)) hb); clear HO_3; clear HO_13; clear HB; have HO_3 := n0_; have HO_13 := n1_; have HB := n2_; clear n0_ n1_ n2_; (try clear hb); (try clear hb2); (try clear hk); (try clear hi)))
                  go_roundg k1
                  case measure => have := HK1.out; omega
                  case rel => exact ⟨(x3_1), (wrap64 (x15_1 + 1)), (by first | rfl | (simp; done) | (simp [*]; done)), H', ⟨by have := HK1.out; omega⟩, ⟨by (with_reducible repeat (first | apply Kd.R_alloc | apply Kd.R_drewN | apply Kd.R_drew)); exact HO_3.out⟩, ⟨by (with_reducible repeat (first | apply Kd.R_alloc | apply Kd.R_drewN | apply Kd.R_drew)); exact HO_13.out⟩, ⟨by repeat (first | (with_reducible first | exact HB.out | apply below_alloc | apply pw_below_drewN | apply below_drew1) | exact HB.out)⟩⟩
                · replace c17 := Bool.eq_false_iff.mpr c17
                  subst c17
                  have H1 : (if x3_1.length < 17592186044416 then (dirrecord_Differ.l0 k1 a0 (x3_1 ++ [rd y141 x15_1]) y141 (y141.length : Int) (wrap64 (x15_1 + 1))) else (none)) = some r := by rw [if_neg (show ¬ (false = true) by decide)] at H; exact H
                  clear H
                  have H := H1
                  clear H1
                  by_cases c19 : x3_1.length < 17592186044416
                  · rw [if_pos c19] at H
                    have LMc19 := Aside0.mk c19
                    clear c19
                    obtain ⟨y154, hy154⟩ : ∃ y_ : List Int, y_ = (x3_1 ++ [rd y141 x15_1]) := ⟨_, rfl⟩
                    replace H : (dirrecord_Differ.l0 k1 a0 y154 y141 (y141.length : Int) (wrap64 (x15_1 + 1))) = some r := by first | (rw [hy154]; with_reducible exact H) | (have H2_ := (Option.bind_some _ _).symm.trans H; rw [hy154]; with_reducible exact H2_) | (have H2_ := (Option.bind_some _ _).symm.trans H; with_reducible exact H2_) | with_reducible exact H | (rw [hy154]; exact H) | exact H
                    have Ny154 := Aside0.mk hy154
                    clear hy154
                    have H' := Aside0.mk H
                    clear H
                    have p144 : 0 ≤ (x15_1 : Int) := of_decide_eq_true (by first | (with_reducible assumption) | assumption)
                    have q144 : x15_1 < (y141.length : Int) := of_decide_eq_true (by first | (with_reducible assumption) | assumption)
                    obtain ⟨ad144, e144, hx144_0⟩ := Kd.at_int (Kd.R_reads' HO_13.out).2.2 x15_1 p144 q144
                    cases e144
                    replace p144 := eq_true p144
                    replace q144 := eq_true q144
                    go_wp2_with (first | ((with_reducible refine gate_callee (f := 65) rfl ?_); refine goesL_ (some 25) rfl rfl Try.func65 (by kernel_rfl) rfl #[.string a0, .int .i64 (rd y141 x15_1), .int .i64 4] rfl (by (try simp only [List.map_toArray, List.map_cons, List.map_nil]); first | done | rfl | (simp only [List.length_drop, List.length_take]; rfl)) ?_; (with_reducible refine (endian_ReadBoth.calls a0 (rd y141 x15_1) 4 t151 false t153 _ A16.out).mono ?_); rintro e w20 ⟨rfl, hb⟩; refine ⟨_, rfl, ?_⟩; have n0_ := Aside0.mk (Kd.R_below (by (with_reducible repeat (first | apply Kd.R_alloc | apply Kd.R_drewN | apply Kd.R_drew)); exact HO_3.out) hb); have n1_ := Aside0.mk (Kd.R_below (by (with_reducible repeat (first | apply Kd.R_alloc | apply Kd.R_drewN | apply Kd.R_drew)); exact HO_13.out) hb); have n2_ := Aside0.mk (below_step (by repeat (first | (with_reducible first | exact HB.out | apply below_alloc | apply pw_below_drewN | apply below_drew1) | exact HB.out)) hb); clear HO_3; clear HO_13; clear HB; have HO_3 := n0_; have HO_13 := n1_; have HB := n2_; clear n0_ n1_ n2_; (try clear hb); (try clear hb2); (try clear hk); (try clear hi)) | ((with_reducible refine gate_builtin (b := .append) (xs := #[.tmp 31, .tmp 33]) rfl ?_); at_builtin; refine Kd.R_append (Kd.int .i64) (w0 := w) w.heap.size rfl (.tmp 31) (.tmp 33) 33 3 (.int .i64 0) 8 rfl Try.underlying33 info3 rfl (by decide) (by omega) u3 x3_1 (rd y141 x15_1) [.int .i64 (rd y141 x15_1)] (fun k_ => some k_ ≠ (.slice (some ad144) y141.length co5 : Value).ownBlock) (fun _ => False) rfl rfl ?aP (fun _ hk => hk.elim) ?aF ?aO ?aB ?aS ?aL ?_; (case aP => exact rfl); (case aB => exact (by repeat (first | (with_reducible first | exact HB.out | apply below_alloc | apply pw_below_drewN | apply below_drew1) | exact HB.out))); (case aF => exact (fun k_ hk => Kd.fresh' (Kd.R_lt (by (with_reducible repeat (first | apply Kd.R_alloc | apply Kd.R_drewN | apply Kd.R_drew)); exact HO_13.out)) k_ hk)); (case aO => exact (by (with_reducible repeat (first | apply Kd.R_alloc | apply Kd.R_drewN | apply Kd.R_drew)); exact HO_3.out)); (case aS => exact (below_size (by repeat (first | (with_reducible first | exact HB.out | apply below_alloc | apply pw_below_drewN | apply below_drew1) | exact HB.out)))); (case aL => have := LMc19.out; omega); intro v155 w21 ho hb hg hat; rw [← Ny154.out] at ho; have n0_ := Aside0.mk (Kd.R_after (ok := (fun _ => True)) (by (with_reducible repeat (first | apply Kd.R_alloc | apply Kd.R_drewN | apply Kd.R_drew)); exact Kd.R_mono HO_13.out (fun _ hk => ⟨trivial, hk⟩)) hg hat); have n1_ := Aside0.mk (hb); have n2_ := Aside0.mk (ho); clear HO_13; clear HB; clear HO_3; have HO_13 := n0_; have HB := n1_; have HO156 := n2_; clear n0_ n1_ n2_; clear ho hb hg hat))
                    go_roundg k1
                    case measure => have := HK1.out; omega
                    case rel => exact ⟨(y154), (wrap64 (x15_1 + 1)), (by first | rfl | (simp; done) | (simp [*]; done)), H', ⟨by have := HK1.out; omega⟩, ⟨by (with_reducible repeat (first | apply Kd.R_alloc | apply Kd.R_drewN | apply Kd.R_drew)); exact HO156.out⟩, ⟨by (with_reducible repeat (first | apply Kd.R_alloc | apply Kd.R_drewN | apply Kd.R_drew)); exact Kd.R_mono HO_13.out (fun _ hk => hk.2)⟩, ⟨by repeat (first | (with_reducible first | exact HB.out | apply below_alloc | apply pw_below_drewN | apply below_drew1) | exact HB.out)⟩⟩
                  · rw [if_neg c19] at H
                    exact absurd H (by simp)
            · rw [if_neg c8] at H
              exact absurd H (by simp)
          · rw [if_neg c7] at H
            exact absurd H (by simp)
        · rw [if_neg c6] at H
          have c6b0 : decide (x15_1 < (y141.length : Int)) = false := decide_eq_false c6
          clear c6
          obtain rfl := Option.some.inj H
          go_wp2
          go_ret
          exact ⟨_, by first | rfl | (simp [errW_none, errW_some] <;> rfl) | (simp [*, errW_none, errW_some] <;> rfl), by (with_reducible repeat (first | apply Kd.R_alloc | apply Kd.R_drewN | apply Kd.R_drew)); exact Kd.R_mono HO_3.out (fun _ hk => trivial), by repeat (first | (with_reducible first | exact HB.out | apply below_alloc | apply pw_below_drewN | apply below_drew1) | exact HB.out)⟩

/-! ### masterdisclaw20_example: function 28 -/
def masterdisclaw20_example.f  : Option (ByteArray × Int × Int × Int × Int × Int × Int × ByteArray) := some ((⟨#[65, 46, 59, 49]⟩ : ByteArray), 20, 5, 1794845045, 60, 0, 1, (⟨#[]⟩ : ByteArray))
set_option maxHeartbeats 8000000 in
set_option maxRecDepth 100000 in
theorem masterdisclaw20_example.calls  (r1 : ByteArray) (r2 : Int) (r3 : Int) (r4 : Int) (r5 : Int) (r6 : Int) (r7 : Int) (r8 : ByteArray) (w : World) (h : masterdisclaw20_example.f  = some (r1, r2, r3, r4, r5, r6, r7, r8)) :
    Calls Try.prog 28 #[] w fun e w' => e = .returned (.agg #[.string r1, .int .i64 r2, .int .i64 r3, .int .i64 r4, .int .i64 r5, .int .i64 r6, .int .i64 r7, .string r8]) ∧ Below w.heap.size w w' := by
  have hu23 := Try.underlying23
  have HB := Aside0.mk (Below.refl w.heap.size w)
  have H : (some ((⟨#[65, 46, 59, 49]⟩ : ByteArray), 20, 5, 1794845045, 60, 0, 1, (⟨#[]⟩ : ByteArray))) = some (r1, r2, r3, r4, r5, r6, r7, r8) := h
  clear h
  simp only [Option.some.injEq, Prod.mk.injEq] at H
  obtain ⟨rfl, rfl, rfl, rfl, rfl, rfl, rfl, rfl⟩ := H
  go_enter Try.func28, Try.ntmps28
  go_wp2_with (first | ((with_reducible refine gate_dst (N := 0) rfl ?_); refine box_event ?hg (N := 0) ?hd (cs := #[.string (⟨#[]⟩ : ByteArray), .int .i64 0, .int .i64 0, .int .i64 0, .int .i64 0, .int .i64 0, .int .i64 0, .string (⟨#[]⟩ : ByteArray)]) (t := 23) ?hr ?_; (case hd => rfl); (case hg => rfl); (case hr => first | (go_simp; done) | (go_simp; rfl)); intro gb157 hg w1 hbox hb; have n0_ := Aside0.mk (below_step (by repeat (first | (with_reducible first | exact HB.out | apply below_alloc | apply pw_below_drewN | apply below_drew1) | exact HB.out)) hb); have n1_ := Aside0.mk (hbox); have n2_ := Aside0.mk ((by rw [hg]; exact (below_size (by repeat (first | (with_reducible first | exact HB.out | apply below_alloc | apply pw_below_drewN | apply below_drew1) | exact HB.out))) : w.heap.size ≤ gb157)); have n3_ := Aside0.mk ((by rw [hg]; exact (below_size (by repeat (first | (with_reducible first | exact HB.out | apply below_alloc | apply pw_below_drewN | apply below_drew1) | exact HB.out))) : w.heap.size ≤ gb157)); clear HB; have HB := n0_; have BK157 := n1_; have GW157 := n2_; have GE157 := n3_; clear n0_ n1_ n2_ n3_; clear hb hbox hg; have hcz2_0 : w1.cell? ⟨gb157, 0, none⟩ = some (.string (⟨#[]⟩ : ByteArray)) := (blk_cell BK157.out 0).trans rfl; have hcz2_1 : w1.cell? ⟨gb157, 1, none⟩ = some (.int .i64 0) := (blk_cell BK157.out 1).trans rfl; have hcz2_2 : w1.cell? ⟨gb157, 2, none⟩ = some (.int .i64 0) := (blk_cell BK157.out 2).trans rfl; have hcz2_3 : w1.cell? ⟨gb157, 3, none⟩ = some (.int .i64 0) := (blk_cell BK157.out 3).trans rfl; have hcz2_4 : w1.cell? ⟨gb157, 4, none⟩ = some (.int .i64 0) := (blk_cell BK157.out 4).trans rfl; have hcz2_5 : w1.cell? ⟨gb157, 5, none⟩ = some (.int .i64 0) := (blk_cell BK157.out 5).trans rfl; have hcz2_6 : w1.cell? ⟨gb157, 6, none⟩ = some (.int .i64 0) := (blk_cell BK157.out 6).trans rfl; have hcz2_7 : w1.cell? ⟨gb157, 7, none⟩ = some (.string (⟨#[]⟩ : ByteArray)) := (blk_cell BK157.out 7).trans rfl; have hfz2_0 := blk_frozen BK157.out 0; have hfz2_1 := blk_frozen BK157.out 1; have hfz2_2 := blk_frozen BK157.out 2; have hfz2_3 := blk_frozen BK157.out 3; have hfz2_4 := blk_frozen BK157.out 4; have hfz2_5 := blk_frozen BK157.out 5; have hfz2_6 := blk_frozen BK157.out 6; have hfz2_7 := blk_frozen BK157.out 7))
  refine bodyPost_ret (results_cell_row rfl _ _ gb157 23 #[.string (⟨#[65, 46, 59, 49]⟩ : ByteArray), .int .i64 20, .int .i64 5, .int .i64 1794845045, .int .i64 60, .int .i64 0, .int .i64 1, .string (⟨#[]⟩ : ByteArray)] (0, 0) _ rfl (by (with_reducible repeat (first | refine blk_drewN ?_ _ | refine blk_drew ?_ | refine blk_alloc ?_ _)); refine blk_put (cs := #[.string (⟨#[65, 46, 59, 49]⟩ : ByteArray), .int .i64 20, .int .i64 5, .int .i64 1794845045, .int .i64 60, .int .i64 0, .int .i64 1, .string (⟨#[]⟩ : ByteArray)]) ?_ 7 _ rfl; (with_reducible repeat (first | refine blk_drewN ?_ _ | refine blk_drew ?_ | refine blk_alloc ?_ _)); refine blk_put (cs := #[.string (⟨#[65, 46, 59, 49]⟩ : ByteArray), .int .i64 20, .int .i64 5, .int .i64 1794845045, .int .i64 60, .int .i64 0, .int .i64 0, .string (⟨#[]⟩ : ByteArray)]) ?_ 6 _ rfl; (with_reducible repeat (first | refine blk_drewN ?_ _ | refine blk_drew ?_ | refine blk_alloc ?_ _)); refine blk_put (cs := #[.string (⟨#[65, 46, 59, 49]⟩ : ByteArray), .int .i64 20, .int .i64 5, .int .i64 1794845045, .int .i64 60, .int .i64 0, .int .i64 0, .string (⟨#[]⟩ : ByteArray)]) ?_ 5 _ rfl; (with_reducible repeat (first | refine blk_drewN ?_ _ | refine blk_drew ?_ | refine blk_alloc ?_ _)); refine blk_put (cs := #[.string (⟨#[65, 46, 59, 49]⟩ : ByteArray), .int .i64 20, .int .i64 5, .int .i64 1794845045, .int .i64 0, .int .i64 0, .int .i64 0, .string (⟨#[]⟩ : ByteArray)]) ?_ 4 _ rfl; (with_reducible repeat (first | refine blk_drewN ?_ _ | refine blk_drew ?_ | refine blk_alloc ?_ _)); refine blk_put (cs := #[.string (⟨#[65, 46, 59, 49]⟩ : ByteArray), .int .i64 20, .int .i64 5, .int .i64 0, .int .i64 0, .int .i64 0, .int .i64 0, .string (⟨#[]⟩ : ByteArray)]) ?_ 3 _ rfl; (with_reducible repeat (first | refine blk_drewN ?_ _ | refine blk_drew ?_ | refine blk_alloc ?_ _)); refine blk_put (cs := #[.string (⟨#[65, 46, 59, 49]⟩ : ByteArray), .int .i64 20, .int .i64 0, .int .i64 0, .int .i64 0, .int .i64 0, .int .i64 0, .string (⟨#[]⟩ : ByteArray)]) ?_ 2 _ rfl; (with_reducible repeat (first | refine blk_drewN ?_ _ | refine blk_drew ?_ | refine blk_alloc ?_ _)); refine blk_put (cs := #[.string (⟨#[65, 46, 59, 49]⟩ : ByteArray), .int .i64 0, .int .i64 0, .int .i64 0, .int .i64 0, .int .i64 0, .int .i64 0, .string (⟨#[]⟩ : ByteArray)]) ?_ 1 _ rfl; (with_reducible repeat (first | refine blk_drewN ?_ _ | refine blk_drew ?_ | refine blk_alloc ?_ _)); refine blk_put (cs := #[.string (⟨#[]⟩ : ByteArray), .int .i64 0, .int .i64 0, .int .i64 0, .int .i64 0, .int .i64 0, .int .i64 0, .string (⟨#[]⟩ : ByteArray)]) ?_ 0 _ rfl; (with_reducible repeat (first | refine blk_drewN ?_ _ | refine blk_drew ?_ | refine blk_alloc ?_ _)); exact BK157.out) Try.underlying23 rfl (by kernel_rfl)) rfl ?_
  exact ⟨by first | rfl | (simp [errW_none, errW_some] <;> rfl) | (simp [*, errW_none, errW_some] <;> rfl), by repeat (first | (with_reducible first | exact HB.out | apply below_alloc | apply pw_below_drewN | apply below_drew1 | refine below_set ?_ GE157.out) | exact HB.out)⟩

end Go.Proofs.Ytmmghiecjhfijaa.Z
