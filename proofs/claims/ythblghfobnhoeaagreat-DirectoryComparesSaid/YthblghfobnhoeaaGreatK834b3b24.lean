import Derived.Test.YthblghfobnhoeaaGreatK44df00ba
import Derived.Test.YthblghfobnhoeaaGreatK4fdb9b3d
import Derived.Test.YthblghfobnhoeaaGreatK7fa737f1
import Derived.Test.YthblghfobnhoeaaGreatK730f163b
namespace Go.Proofs.YthblghfobnhoeaaGreat.A
open Go.RowKit Go.Proofs.YthblghfobnhoeaaGreat.H Go.Proofs.YthblghfobnhoeaaGreatW.PrintWords Go.Proofs.YthblghfobnhoeaaGreatW.PrintLast Go.Proofs.YthblghfobnhoeaaGreatW.PrintMore
attribute [local go_sem] max2_int min2_int max_two min_two max_three min_three max_four min_four   -- for this text's walks alone
set_option linter.unusedVariables false
set_option linter.unusedSimpArgs false

/-! ### masterdiscref21_Compare: function 12 -/
def masterdiscref21_Compare.j0 : Nat → ByteArray → ByteArray → Bool → Bool → Option (Int)
 | 0, _, _, _, _ => none
 | k + 1, x0, x1, x2, x22 => if x22 = true then ((masterdiscref21_special.f x0).bind fun t214 => ((masterdiscref21_special.f x1).bind fun t215 => (some (wrap64 (t214 - t215))))) else (if x2 = true then ((masterdiscref21_padded.f k x0 x1 0).bind fun t216 => (some t216)) else ((masterdiscref21_Parts.f k x0).bind fun bt217 => ((masterdiscref21_Parts.f k x1).bind fun bt220 => ((masterdiscref21_padded.f k bt217.1 bt220.1 32).bind fun t223 => (if t223 = 0 then ((masterdiscref21_padded.f k bt217.2.1 bt220.2.1 32).bind fun t224 => (if t224 = 0 then ((masterdiscref01_Repeat.f k 48 (wrap64 ((bt220.2.2.size : Int) - (bt217.2.2.size : Int)))).bind fun t225 => (if t225.size + bt217.2.2.size ≤ 9223372036854775807 then ((masterdiscref01_Repeat.f k 48 (wrap64 (((t225 ++ bt217.2.2).size : Int) - (bt220.2.2.size : Int)))).bind fun t226 => (if t226.size + bt220.2.2.size ≤ 9223372036854775807 then ((masterdiscref21_padded.f k (t226 ++ bt220.2.2) (t225 ++ bt217.2.2) 48).bind fun t227 => (some t227)) else (none))) else (none))) else (some t224))) else (some t223))))))
def masterdiscref21_Compare.f (k : Nat) (a0 : ByteArray) (a1 : ByteArray) (a2 : Bool) : Option (Int) := (masterdiscref21_special.f a0).bind fun t212 => (if t212 < 2 then (masterdiscref21_Compare.j0 k a0 a1 a2 true) else ((masterdiscref21_special.f a1).bind fun t213 => (masterdiscref21_Compare.j0 k a0 a1 a2 (decide (t213 < 2)))))
set_option maxHeartbeats 8000000 in
set_option maxRecDepth 100000 in
theorem masterdiscref21_Compare.calls (k : Nat) (a0 : ByteArray) (a1 : ByteArray) (a2 : Bool) (r : Int) (w : World) (h : masterdiscref21_Compare.f k a0 a1 a2 = some r) :
  Calls Tryz.prog 12 #[.string a0, .string a1, .bool a2] w fun e w' => e = .returned (.int .i64 r) ∧ Below w.heap.size w w' := by
 have HB := Aside0.mk (Below.refl w.heap.size w)
 have H : ((masterdiscref21_special.f a0).bind fun t212 => (if t212 < 2 then (masterdiscref21_Compare.j0 k a0 a1 a2 true) else ((masterdiscref21_special.f a1).bind fun t213 => (masterdiscref21_Compare.j0 k a0 a1 a2 (decide (t213 < 2)))))) = some r := h
 clear h
 have HC4 := Aside0.mk H
 clear H
 go_enter Tryz.func12, Tryz.ntmps12
 go_upto_region 1 with (fail)
 go_cut [22] (fun v22 wc => ∃ (kq : Nat) (x22_3 : Bool), v22 = .bool x22_3 ∧ Aside0 (masterdiscref21_Compare.j0 kq a0 a1 a2 x22_3 = some r) ∧ Aside0 (kq ≤ k) ∧ Aside0 (Below w.heap.size w wc))
 case first =>
  have H := HC4.out
  clear HC4
  replace H := Option.bind_eq_some_iff.mp H
  obtain ⟨t212, A50, H⟩ := H
  replace H : (if t212 < 2 then (masterdiscref21_Compare.j0 k a0 a1 a2 true) else ((masterdiscref21_special.f a1).bind fun t213 => (masterdiscref21_Compare.j0 k a0 a1 a2 (decide (t213 < 2))))) = some r := H
  have A5 := Aside0.mk A50
  clear A50
  by_cases c6 : t212 < 2
  ·rw [if_pos c6] at H
   have c6b0 : decide (t212 < 2) = true := decide_eq_true c6
   clear c6
   (first | rw [c6b0] | (simp only [i64_w, i32_w]; rw [c6b0]) | skip)
   have H' := Aside0.mk H
   clear H
   go_wp2_with (first | ((with_reducible refine gate_callee (f := 38) rfl ?_); refine goesL_ (some 16) rfl rfl Tryz.func38 (by kernel_rfl) rfl #[.string a0] rfl (by (try simp only [List.map_toArray, List.map_cons, List.map_nil]); first | done | rfl | (simp only [List.length_drop, List.length_take]; rfl)) ?_; (with_reducible refine (masterdiscref21_special.calls a0 t212 _ A5.out).mono ?_); rintro e w' ⟨rfl, ⟨nd, rfl⟩⟩; refine ⟨_, rfl, ?_⟩))
   go_meet
   case rel => exact ⟨_, (true), (by first | rfl | (simp; done) | (simp [*]; done)), H', ⟨by first | omega | exact Nat.le_refl _⟩, ⟨by repeat (first | (with_reducible first | exact HB.out | apply below_alloc | apply pw_below_drewN | apply below_drew1) | exact HB.out)⟩⟩
  ·rw [if_neg c6] at H
   have c6b0 : decide (t212 < 2) = false := decide_eq_false c6
   clear c6
   (first | rw [c6b0] | (simp only [i64_w, i32_w]; rw [c6b0]) | skip)
   replace H := Option.bind_eq_some_iff.mp H
   obtain ⟨t213, A70, H⟩ := H
   replace H : (masterdiscref21_Compare.j0 k a0 a1 a2 (decide (t213 < 2))) = some r := H
   have A7 := Aside0.mk A70
   clear A70
   have H' := Aside0.mk H
   clear H
   go_wp2_with (first | ((with_reducible refine gate_callee (f := 38) rfl ?_); refine goesL_ (some 16) rfl rfl Tryz.func38 (by kernel_rfl) rfl #[.string a0] rfl (by (try simp only [List.map_toArray, List.map_cons, List.map_nil]); first | done | rfl | (simp only [List.length_drop, List.length_take]; rfl)) ?_; (with_reducible refine (masterdiscref21_special.calls a0 t212 _ A5.out).mono ?_); rintro e w' ⟨rfl, ⟨nd, rfl⟩⟩; refine ⟨_, rfl, ?_⟩) | (go_at_call 38; (with_reducible refine (masterdiscref21_special.calls a1 t213 _ A7.out).mono ?_); rintro e w' ⟨rfl, ⟨nd, rfl⟩⟩))
   go_meet
   case rel => exact ⟨_, (decide (t213 < 2)), (by first | rfl | (simp; done) | (simp [*]; done)), H', ⟨by first | omega | exact Nat.le_refl _⟩, ⟨by repeat (first | (with_reducible first | exact HB.out | apply below_alloc | apply pw_below_drewN | apply below_drew1) | exact HB.out)⟩⟩
 case rest =>
  clear HC4
  try clear c1
  try clear p2
  try clear c3
  try clear c6
  try clear c6b0
  obtain ⟨kq, x22_3, rfl, HA, HJ3, HB⟩ := hcut
  cases kq with
  | zero => exact absurd HA.out (by simp [masterdiscref21_Compare.j0])
  | succ kj3 =>
   have H := HA.out
   clear HA
   simp only [masterdiscref21_Compare.j0] at H
   by_cases c8 : x22_3 = true
   ·subst c8
    have H1 : ((masterdiscref21_special.f a0).bind fun t214 => ((masterdiscref21_special.f a1).bind fun t215 => (some (wrap64 (t214 - t215))))) = some r := by rw [if_pos rfl] at H; exact H
    clear H
    have H := H1
    clear H1
    replace H := Option.bind_eq_some_iff.mp H
    obtain ⟨t214, A90, H⟩ := H
    replace H : ((masterdiscref21_special.f a1).bind fun t215 => (some (wrap64 (t214 - t215)))) = some r := H
    have A9 := Aside0.mk A90
    clear A90
    replace H := Option.bind_eq_some_iff.mp H
    obtain ⟨t215, A100, H⟩ := H
    replace H : (some (wrap64 (t214 - t215))) = some r := H
    have A10 := Aside0.mk A100
    clear A100
    obtain rfl := Option.some.inj H
    go_wp2_with (first | ((with_reducible refine gate_callee (f := 38) rfl ?_); refine goesL_ (some 24) rfl rfl Tryz.func38 (by kernel_rfl) rfl #[.string a0] rfl (by (try simp only [List.map_toArray, List.map_cons, List.map_nil]); first | done | rfl | (simp only [List.length_drop, List.length_take]; rfl)) ?_; (with_reducible refine (masterdiscref21_special.calls a0 t214 _ A9.out).mono ?_); rintro e w' ⟨rfl, ⟨nd, rfl⟩⟩; refine ⟨_, rfl, ?_⟩) | ((with_reducible refine gate_callee (f := 38) rfl ?_); refine goesL_ (some 26) rfl rfl Tryz.func38 (by kernel_rfl) rfl #[.string a1] rfl (by (try simp only [List.map_toArray, List.map_cons, List.map_nil]); first | done | rfl | (simp only [List.length_drop, List.length_take]; rfl)) ?_; (with_reducible refine (masterdiscref21_special.calls a1 t215 _ A10.out).mono ?_); rintro e w' ⟨rfl, ⟨nd, rfl⟩⟩; refine ⟨_, rfl, ?_⟩))
    go_ret
    exact ⟨by first | rfl | (simp [errW_none, errW_some] <;> rfl) | (simp [*, errW_none, errW_some] <;> rfl), by repeat (first | (with_reducible first | exact HB.out | apply below_alloc | apply pw_below_drewN | apply below_drew1) | exact HB.out)⟩
   ·replace c8 := Bool.eq_false_iff.mpr c8
    subst c8
    have H1 : (if a2 = true then ((masterdiscref21_padded.f kj3 a0 a1 0).bind fun t216 => (some t216)) else ((masterdiscref21_Parts.f kj3 a0).bind fun bt217 => ((masterdiscref21_Parts.f kj3 a1).bind fun bt220 => ((masterdiscref21_padded.f kj3 bt217.1 bt220.1 32).bind fun t223 => (if t223 = 0 then ((masterdiscref21_padded.f kj3 bt217.2.1 bt220.2.1 32).bind fun t224 => (if t224 = 0 then ((masterdiscref01_Repeat.f kj3 48 (wrap64 ((bt220.2.2.size : Int) - (bt217.2.2.size : Int)))).bind fun t225 => (if t225.size + bt217.2.2.size ≤ 9223372036854775807 then ((masterdiscref01_Repeat.f kj3 48 (wrap64 (((t225 ++ bt217.2.2).size : Int) - (bt220.2.2.size : Int)))).bind fun t226 => (if t226.size + bt220.2.2.size ≤ 9223372036854775807 then ((masterdiscref21_padded.f kj3 (t226 ++ bt220.2.2) (t225 ++ bt217.2.2) 48).bind fun t227 => (some t227)) else (none))) else (none))) else (some t224))) else (some t223)))))) = some r := by rw [if_neg (show ¬ (false = true) by decide)] at H; exact H
    clear H
    have H := H1
    clear H1
    by_cases c11 : a2 = true
    ·subst c11
     have H1 : ((masterdiscref21_padded.f kj3 a0 a1 0).bind fun t216 => (some t216)) = some r := by rw [if_pos rfl] at H; exact H
     clear H
     have H := H1
     clear H1
     replace H := Option.bind_eq_some_iff.mp H
     obtain ⟨t216, A120, H⟩ := H
     replace H : (some t216) = some r := H
     have A12 := Aside0.mk A120
     clear A120
     obtain rfl := Option.some.inj H
     go_wp2_with (first | ((with_reducible refine gate_callee (f := 39) rfl ?_); refine goesL_ (some 31) rfl rfl Tryz.func39 (by kernel_rfl) rfl #[.string a0, .string a1, .int .u8 0] rfl (by (try simp only [List.map_toArray, List.map_cons, List.map_nil]); first | done | rfl | (simp only [List.length_drop, List.length_take]; rfl)) ?_; (with_reducible refine (masterdiscref21_padded.calls kj3 a0 a1 0 t216 _ A12.out).mono ?_); rintro e w' ⟨rfl, ⟨nd, rfl⟩⟩; refine ⟨_, rfl, ?_⟩))
     go_ret
     exact ⟨by first | rfl | (simp [errW_none, errW_some] <;> rfl) | (simp [*, errW_none, errW_some] <;> rfl), by repeat (first | (with_reducible first | exact HB.out | apply below_alloc | apply pw_below_drewN | apply below_drew1) | exact HB.out)⟩
    ·replace c11 := Bool.eq_false_iff.mpr c11
     subst c11
     have H1 : ((masterdiscref21_Parts.f kj3 a0).bind fun bt217 => ((masterdiscref21_Parts.f kj3 a1).bind fun bt220 => ((masterdiscref21_padded.f kj3 bt217.1 bt220.1 32).bind fun t223 => (if t223 = 0 then ((masterdiscref21_padded.f kj3 bt217.2.1 bt220.2.1 32).bind fun t224 => (if t224 = 0 then ((masterdiscref01_Repeat.f kj3 48 (wrap64 ((bt220.2.2.size : Int) - (bt217.2.2.size : Int)))).bind fun t225 => (if t225.size + bt217.2.2.size ≤ 9223372036854775807 then ((masterdiscref01_Repeat.f kj3 48 (wrap64 (((t225 ++ bt217.2.2).size : Int) - (bt220.2.2.size : Int)))).bind fun t226 => (if t226.size + bt220.2.2.size ≤ 9223372036854775807 then ((masterdiscref21_padded.f kj3 (t226 ++ bt220.2.2) (t225 ++ bt217.2.2) 48).bind fun t227 => (some t227)) else (none))) else (none))) else (some t224))) else (some t223))))) = some r := by rw [if_neg (show ¬ (false = true) by decide)] at H; exact H
     clear H
     have H := H1
     clear H1
     replace H := Option.bind_eq_some_iff.mp H
     obtain ⟨⟨t217, t218, t219⟩, A130, H⟩ := H
     replace H : ((masterdiscref21_Parts.f kj3 a1).bind fun bt220 => ((masterdiscref21_padded.f kj3 t217 bt220.1 32).bind fun t223 => (if t223 = 0 then ((masterdiscref21_padded.f kj3 t218 bt220.2.1 32).bind fun t224 => (if t224 = 0 then ((masterdiscref01_Repeat.f kj3 48 (wrap64 ((bt220.2.2.size : Int) - (t219.size : Int)))).bind fun t225 => (if t225.size + t219.size ≤ 9223372036854775807 then ((masterdiscref01_Repeat.f kj3 48 (wrap64 (((t225 ++ t219).size : Int) - (bt220.2.2.size : Int)))).bind fun t226 => (if t226.size + bt220.2.2.size ≤ 9223372036854775807 then ((masterdiscref21_padded.f kj3 (t226 ++ bt220.2.2) (t225 ++ t219) 48).bind fun t227 => (some t227)) else (none))) else (none))) else (some t224))) else (some t223)))) = some r := H
     have A13 := Aside0.mk A130
     clear A130
     replace H := Option.bind_eq_some_iff.mp H
     obtain ⟨⟨t220, t221, t222⟩, A140, H⟩ := H
     replace H : ((masterdiscref21_padded.f kj3 t217 t220 32).bind fun t223 => (if t223 = 0 then ((masterdiscref21_padded.f kj3 t218 t221 32).bind fun t224 => (if t224 = 0 then ((masterdiscref01_Repeat.f kj3 48 (wrap64 ((t222.size : Int) - (t219.size : Int)))).bind fun t225 => (if t225.size + t219.size ≤ 9223372036854775807 then ((masterdiscref01_Repeat.f kj3 48 (wrap64 (((t225 ++ t219).size : Int) - (t222.size : Int)))).bind fun t226 => (if t226.size + t222.size ≤ 9223372036854775807 then ((masterdiscref21_padded.f kj3 (t226 ++ t222) (t225 ++ t219) 48).bind fun t227 => (some t227)) else (none))) else (none))) else (some t224))) else (some t223))) = some r := H
     have A14 := Aside0.mk A140
     clear A140
     replace H := Option.bind_eq_some_iff.mp H
     obtain ⟨t223, A150, H⟩ := H
     replace H : (if t223 = 0 then ((masterdiscref21_padded.f kj3 t218 t221 32).bind fun t224 => (if t224 = 0 then ((masterdiscref01_Repeat.f kj3 48 (wrap64 ((t222.size : Int) - (t219.size : Int)))).bind fun t225 => (if t225.size + t219.size ≤ 9223372036854775807 then ((masterdiscref01_Repeat.f kj3 48 (wrap64 (((t225 ++ t219).size : Int) - (t222.size : Int)))).bind fun t226 => (if t226.size + t222.size ≤ 9223372036854775807 then ((masterdiscref21_padded.f kj3 (t226 ++ t222) (t225 ++ t219) 48).bind fun t227 => (some t227)) else (none))) else (none))) else (some t224))) else (some t223)) = some r := H
     have A15 := Aside0.mk A150
     clear A150
     by_cases c16 : t223 = 0
     ·rw [if_pos c16] at H
      have c16b0 : (t223 == 0) = true := beq_iff_eq.mpr c16
      have c16b1 : (t223 != 0) = false := bne_eq_false_iff_eq.mpr c16
      clear c16
      replace H := Option.bind_eq_some_iff.mp H
      obtain ⟨t224, A170, H⟩ := H
      replace H : (if t224 = 0 then ((masterdiscref01_Repeat.f kj3 48 (wrap64 ((t222.size : Int) - (t219.size : Int)))).bind fun t225 => (if t225.size + t219.size ≤ 9223372036854775807 then ((masterdiscref01_Repeat.f kj3 48 (wrap64 (((t225 ++ t219).size : Int) - (t222.size : Int)))).bind fun t226 => (if t226.size + t222.size ≤ 9223372036854775807 then ((masterdiscref21_padded.f kj3 (t226 ++ t222) (t225 ++ t219) 48).bind fun t227 => (some t227)) else (none))) else (none))) else (some t224)) = some r := H
      have A17 := Aside0.mk A170
      clear A170
      by_cases c18 : t224 = 0
      ·rw [if_pos c18] at H
       have c18b0 : (t224 == 0) = true := beq_iff_eq.mpr c18
       have c18b1 : (t224 != 0) = false := bne_eq_false_iff_eq.mpr c18
       clear c18
       replace H := Option.bind_eq_some_iff.mp H
       obtain ⟨t225, A190, H⟩ := H
       replace H : (if t225.size + t219.size ≤ 9223372036854775807 then ((masterdiscref01_Repeat.f kj3 48 (wrap64 (((t225 ++ t219).size : Int) - (t222.size : Int)))).bind fun t226 => (if t226.size + t222.size ≤ 9223372036854775807 then ((masterdiscref21_padded.f kj3 (t226 ++ t222) (t225 ++ t219) 48).bind fun t227 => (some t227)) else (none))) else (none)) = some r := H
       have A19 := Aside0.mk A190
       clear A190
       by_cases c20 : t225.size + t219.size ≤ 9223372036854775807
       rotate_left
       ·rw [if_neg c20] at H
        exact absurd H (by simp)
       rw [if_pos c20] at H
       have c20b0 := eq_true c20
       have c20b1 : decide (t225.size + t219.size ≤ 9223372036854775807) = true := decide_eq_true c20
       try have c20b2 : (9223372036854775807 < t225.size + t219.size) = False := eq_false (Nat.not_lt.2 c20)
       replace H := Option.bind_eq_some_iff.mp H
       obtain ⟨t226, A210, H⟩ := H
       replace H : (if t226.size + t222.size ≤ 9223372036854775807 then ((masterdiscref21_padded.f kj3 (t226 ++ t222) (t225 ++ t219) 48).bind fun t227 => (some t227)) else (none)) = some r := H
       have A21 := Aside0.mk A210
       clear A210
       by_cases c22 : t226.size + t222.size ≤ 9223372036854775807
       rotate_left
       ·rw [if_neg c22] at H
        exact absurd H (by simp)
       rw [if_pos c22] at H
       have c22b0 := eq_true c22
       have c22b1 : decide (t226.size + t222.size ≤ 9223372036854775807) = true := decide_eq_true c22
       try have c22b2 : (9223372036854775807 < t226.size + t222.size) = False := eq_false (Nat.not_lt.2 c22)
       replace H := Option.bind_eq_some_iff.mp H
       obtain ⟨t227, A230, H⟩ := H
       replace H : (some t227) = some r := H
       have A23 := Aside0.mk A230
       clear A230
       obtain rfl := Option.some.inj H
       have hw1_ : wrap64 ((t222.size : Int) - (t219.size : Int)) = ((t222.size : Int) - (t219.size : Int)) := by unfold wrap64; omega
       have hw2_ : wrap64 (((t225 ++ t219).size : Int) - (t222.size : Int)) = ((t225.size : Int) + (t219.size : Int) - (t222.size : Int)) := by rw [ByteArray.size_append]; unfold wrap64; omega
       have h3_ := A19.out
       rw [hw1_] at h3_
       clear A19
       have A19 := Aside0.mk h3_
       clear h3_
       have h3_ := A21.out
       rw [hw2_] at h3_
       clear A21
       have A21 := Aside0.mk h3_
       clear h3_
       clear hw1_ hw2_
       go_wp2_with (first | ((with_reducible refine gate_callee (f := 40) rfl ?_); refine goesL_ (some 34) rfl rfl Tryz.func40 (by kernel_rfl) rfl #[.string a0] rfl (by (try simp only [List.map_toArray, List.map_cons, List.map_nil]); first | done | rfl | (simp only [List.length_drop, List.length_take]; rfl)) ?_; (with_reducible refine (masterdiscref21_Parts.calls kj3 a0 t217 t218 t219 _ A13.out).mono ?_); rintro e w' ⟨rfl, ⟨nd, rfl⟩⟩; refine ⟨_, rfl, ?_⟩) | ((with_reducible refine gate_callee (f := 40) rfl ?_); refine goesL_ (some 40) rfl rfl Tryz.func40 (by kernel_rfl) rfl #[.string a1] rfl (by (try simp only [List.map_toArray, List.map_cons, List.map_nil]); first | done | rfl | (simp only [List.length_drop, List.length_take]; rfl)) ?_; (with_reducible refine (masterdiscref21_Parts.calls kj3 a1 t220 t221 t222 _ A14.out).mono ?_); rintro e w' ⟨rfl, ⟨nd, rfl⟩⟩; refine ⟨_, rfl, ?_⟩) | ((with_reducible refine gate_callee (f := 39) rfl ?_); refine goesL_ (some 46) rfl rfl Tryz.func39 (by kernel_rfl) rfl #[.string t217, .string t220, .int .u8 32] rfl (by (try simp only [List.map_toArray, List.map_cons, List.map_nil]); first | done | rfl | (simp only [List.length_drop, List.length_take]; rfl)) ?_; (with_reducible refine (masterdiscref21_padded.calls kj3 t217 t220 32 t223 _ A15.out).mono ?_); rintro e w' ⟨rfl, ⟨nd, rfl⟩⟩; refine ⟨_, rfl, ?_⟩) | ((with_reducible refine gate_callee (f := 39) rfl ?_); refine goesL_ (some 52) rfl rfl Tryz.func39 (by kernel_rfl) rfl #[.string t218, .string t221, .int .u8 32] rfl (by (try simp only [List.map_toArray, List.map_cons, List.map_nil]); first | done | rfl | (simp only [List.length_drop, List.length_take]; rfl)) ?_; (with_reducible refine (masterdiscref21_padded.calls kj3 t218 t221 32 t224 _ A17.out).mono ?_); rintro e w' ⟨rfl, ⟨nd, rfl⟩⟩; refine ⟨_, rfl, ?_⟩) | ((with_reducible refine gate_callee (f := 41) rfl ?_); refine goesL_ (some 61) rfl rfl Tryz.func41 (by kernel_rfl) rfl #[.int .u8 48, .int .i64 ((t222.size : Int) - (t219.size : Int))] rfl (by (try simp only [List.map_toArray, List.map_cons, List.map_nil]); first | done | rfl | (simp only [List.length_drop, List.length_take]; rfl)) ?_; (with_reducible refine (masterdiscref01_Repeat.calls kj3 48 ((t222.size : Int) - (t219.size : Int)) t225 _ A19.out).mono ?_); rintro e w24 ⟨rfl, hb⟩; refine ⟨_, rfl, ?_⟩; have n0_ := Aside0.mk (below_step (by repeat (first | (with_reducible first | exact HB.out | apply below_alloc | apply pw_below_drewN | apply below_drew1) | exact HB.out)) hb); clear HB; have HB := n0_; clear n0_; (try clear hb); (try clear hb2); (try clear hk); (try clear hi)) | ((with_reducible refine gate_callee (f := 41) rfl ?_); refine goesL_ (some 69) rfl rfl Tryz.func41 (by kernel_rfl) rfl #[.int .u8 48, .int .i64 ((t225.size : Int) + (t219.size : Int) - (t222.size : Int))] rfl (by (try simp only [List.map_toArray, List.map_cons, List.map_nil]); first | done | rfl | (simp only [List.length_drop, List.length_take]; rfl)) ?_; (with_reducible refine (masterdiscref01_Repeat.calls kj3 48 ((t225.size : Int) + (t219.size : Int) - (t222.size : Int)) t226 _ A21.out).mono ?_); rintro e w25 ⟨rfl, hb⟩; refine ⟨_, rfl, ?_⟩; have n0_ := Aside0.mk (below_step (by repeat (first | (with_reducible first | exact HB.out | apply below_alloc | apply pw_below_drewN | apply below_drew1) | exact HB.out)) hb); clear HB; have HB := n0_; clear n0_; (try clear hb); (try clear hb2); (try clear hk); (try clear hi)) | ((with_reducible refine gate_callee (f := 39) rfl ?_); refine goesL_ (some 74) rfl rfl Tryz.func39 (by kernel_rfl) rfl #[.string (t226 ++ t222), .string (t225 ++ t219), .int .u8 48] rfl (by (try simp only [List.map_toArray, List.map_cons, List.map_nil]); first | done | rfl | (simp only [List.length_drop, List.length_take]; rfl)) ?_; (with_reducible refine (masterdiscref21_padded.calls kj3 (t226 ++ t222) (t225 ++ t219) 48 t227 _ A23.out).mono ?_); rintro e w' ⟨rfl, ⟨nd, rfl⟩⟩; refine ⟨_, rfl, ?_⟩))
       go_ret
       exact ⟨by first | rfl | (simp [errW_none, errW_some] <;> rfl) | (simp [*, errW_none, errW_some] <;> rfl), by repeat (first | (with_reducible first | exact HB.out | apply below_alloc | apply pw_below_drewN | apply below_drew1) | exact HB.out)⟩
      ·rw [if_neg c18] at H
       have c18b0 : (t224 == 0) = false := beq_eq_false_iff_ne.mpr c18
       have c18b1 : (t224 != 0) = true := bne_iff_ne.mpr c18
       obtain rfl := Option.some.inj H
       go_wp2_with (first | ((with_reducible refine gate_callee (f := 40) rfl ?_); refine goesL_ (some 34) rfl rfl Tryz.func40 (by kernel_rfl) rfl #[.string a0] rfl (by (try simp only [List.map_toArray, List.map_cons, List.map_nil]); first | done | rfl | (simp only [List.length_drop, List.length_take]; rfl)) ?_; (with_reducible refine (masterdiscref21_Parts.calls kj3 a0 t217 t218 t219 _ A13.out).mono ?_); rintro e w' ⟨rfl, ⟨nd, rfl⟩⟩; refine ⟨_, rfl, ?_⟩) | ((with_reducible refine gate_callee (f := 40) rfl ?_); refine goesL_ (some 40) rfl rfl Tryz.func40 (by kernel_rfl) rfl #[.string a1] rfl (by (try simp only [List.map_toArray, List.map_cons, List.map_nil]); first | done | rfl | (simp only [List.length_drop, List.length_take]; rfl)) ?_; (with_reducible refine (masterdiscref21_Parts.calls kj3 a1 t220 t221 t222 _ A14.out).mono ?_); rintro e w' ⟨rfl, ⟨nd, rfl⟩⟩; refine ⟨_, rfl, ?_⟩) | ((with_reducible refine gate_callee (f := 39) rfl ?_); refine goesL_ (some 46) rfl rfl Tryz.func39 (by kernel_rfl) rfl #[.string t217, .string t220, .int .u8 32] rfl (by (try simp only [List.map_toArray, List.map_cons, List.map_nil]); first | done | rfl | (simp only [List.length_drop, List.length_take]; rfl)) ?_; (with_reducible refine (masterdiscref21_padded.calls kj3 t217 t220 32 t223 _ A15.out).mono ?_); rintro e w' ⟨rfl, ⟨nd, rfl⟩⟩; refine ⟨_, rfl, ?_⟩) | ((with_reducible refine gate_callee (f := 39) rfl ?_); refine goesL_ (some 52) rfl rfl Tryz.func39 (by kernel_rfl) rfl #[.string t218, .string t221, .int .u8 32] rfl (by (try simp only [List.map_toArray, List.map_cons, List.map_nil]); first | done | rfl | (simp only [List.length_drop, List.length_take]; rfl)) ?_; (with_reducible refine (masterdiscref21_padded.calls kj3 t218 t221 32 t224 _ A17.out).mono ?_); rintro e w' ⟨rfl, ⟨nd, rfl⟩⟩; refine ⟨_, rfl, ?_⟩))
       go_ret
       exact ⟨by first | rfl | (simp [errW_none, errW_some] <;> rfl) | (simp [*, errW_none, errW_some] <;> rfl), by repeat (first | (with_reducible first | exact HB.out | apply below_alloc | apply pw_below_drewN | apply below_drew1) | exact HB.out)⟩
     ·rw [if_neg c16] at H
      have c16b0 : (t223 == 0) = false := beq_eq_false_iff_ne.mpr c16
      have c16b1 : (t223 != 0) = true := bne_iff_ne.mpr c16
      obtain rfl := Option.some.inj H
      go_wp2_with (first | ((with_reducible refine gate_callee (f := 40) rfl ?_); refine goesL_ (some 34) rfl rfl Tryz.func40 (by kernel_rfl) rfl #[.string a0] rfl (by (try simp only [List.map_toArray, List.map_cons, List.map_nil]); first | done | rfl | (simp only [List.length_drop, List.length_take]; rfl)) ?_; (with_reducible refine (masterdiscref21_Parts.calls kj3 a0 t217 t218 t219 _ A13.out).mono ?_); rintro e w' ⟨rfl, ⟨nd, rfl⟩⟩; refine ⟨_, rfl, ?_⟩) | ((with_reducible refine gate_callee (f := 40) rfl ?_); refine goesL_ (some 40) rfl rfl Tryz.func40 (by kernel_rfl) rfl #[.string a1] rfl (by (try simp only [List.map_toArray, List.map_cons, List.map_nil]); first | done | rfl | (simp only [List.length_drop, List.length_take]; rfl)) ?_; (with_reducible refine (masterdiscref21_Parts.calls kj3 a1 t220 t221 t222 _ A14.out).mono ?_); rintro e w' ⟨rfl, ⟨nd, rfl⟩⟩; refine ⟨_, rfl, ?_⟩) | ((with_reducible refine gate_callee (f := 39) rfl ?_); refine goesL_ (some 46) rfl rfl Tryz.func39 (by kernel_rfl) rfl #[.string t217, .string t220, .int .u8 32] rfl (by (try simp only [List.map_toArray, List.map_cons, List.map_nil]); first | done | rfl | (simp only [List.length_drop, List.length_take]; rfl)) ?_; (with_reducible refine (masterdiscref21_padded.calls kj3 t217 t220 32 t223 _ A15.out).mono ?_); rintro e w' ⟨rfl, ⟨nd, rfl⟩⟩; refine ⟨_, rfl, ?_⟩))
      go_ret
      exact ⟨by first | rfl | (simp [errW_none, errW_some] <;> rfl) | (simp [*, errW_none, errW_some] <;> rfl), by repeat (first | (with_reducible first | exact HB.out | apply below_alloc | apply pw_below_drewN | apply below_drew1) | exact HB.out)⟩

/-! ### masterdisclaw21_DirectoryCompares: function 3 -/
def masterdisclaw21_DirectoryCompares.j0 : Nat → ByteArray → ByteArray → Bool → Bool → Option (Bool)
 | 0, _, _, _, _ => none
 | k + 1, x0, x1, x2, x16 => if x16 = true then (some true) else ((directory_Compare.f k x0 x1 x2).bind fun t229 => ((masterdisclaw21_sign.f t229).bind fun t230 => ((masterdiscref21_Compare.f k x0 x1 x2).bind fun t231 => ((masterdisclaw21_sign.f t231).bind fun t232 => (some (t230 == t232))))))
def masterdisclaw21_DirectoryCompares.f (k : Nat) (a0 : ByteArray) (a1 : ByteArray) (a2 : Bool) : Option (Bool) := (masterdisclaw21_awake.f).bind fun t228 => (if t228 = true then (if (a0.size : Int) > 300 then (masterdisclaw21_DirectoryCompares.j0 k a0 a1 a2 true) else (masterdisclaw21_DirectoryCompares.j0 k a0 a1 a2 (decide ((a1.size : Int) > 300)))) else (some false))
set_option maxHeartbeats 8000000 in
set_option maxRecDepth 100000 in
theorem masterdisclaw21_DirectoryCompares.calls (k : Nat) (a0 : ByteArray) (a1 : ByteArray) (a2 : Bool) (r : Bool) (w : World) (h : masterdisclaw21_DirectoryCompares.f k a0 a1 a2 = some r) :
  Calls Tryz.prog 3 #[.string a0, .string a1, .bool a2] w fun e w' => e = .returned (.bool r) ∧ Below w.heap.size w w' := by
 have HB := Aside0.mk (Below.refl w.heap.size w)
 have H : ((masterdisclaw21_awake.f).bind fun t228 => (if t228 = true then (if (a0.size : Int) > 300 then (masterdisclaw21_DirectoryCompares.j0 k a0 a1 a2 true) else (masterdisclaw21_DirectoryCompares.j0 k a0 a1 a2 (decide ((a1.size : Int) > 300)))) else (some false))) = some r := h
 clear h
 replace H := Option.bind_eq_some_iff.mp H
 obtain ⟨t228, A40, H⟩ := H
 replace H : (if t228 = true then (if (a0.size : Int) > 300 then (masterdisclaw21_DirectoryCompares.j0 k a0 a1 a2 true) else (masterdisclaw21_DirectoryCompares.j0 k a0 a1 a2 (decide ((a1.size : Int) > 300)))) else (some false)) = some r := H
 have A4 := Aside0.mk A40
 clear A40
 by_cases c5 : t228 = true
 ·subst c5
  have H1 : (if (a0.size : Int) > 300 then (masterdisclaw21_DirectoryCompares.j0 k a0 a1 a2 true) else (masterdisclaw21_DirectoryCompares.j0 k a0 a1 a2 (decide ((a1.size : Int) > 300)))) = some r := by rw [if_pos rfl] at H; exact H
  clear H
  have H := H1
  clear H1
  have HC6 := Aside0.mk H
  clear H
  go_enter Tryz.func3, Tryz.ntmps3
  go_upto_region 3 with (first | ((with_reducible refine gate_callee (f := 9) rfl ?_); refine goesL_ (some 7) rfl rfl Tryz.func9 (by kernel_rfl) rfl #[] rfl (by (try simp only [List.map_toArray, List.map_cons, List.map_nil]); first | done | rfl | (simp only [List.length_drop, List.length_take]; rfl)) ?_; (with_reducible refine (masterdisclaw21_awake.calls  true _ A4.out).mono ?_); rintro e w7 ⟨rfl, hb⟩; refine ⟨_, rfl, ?_⟩; have n0_ := Aside0.mk (below_step (by repeat (first | (with_reducible first | exact HB.out | apply below_alloc | apply pw_below_drewN | apply below_drew1) | exact HB.out)) hb); clear HB; have HB := n0_; clear n0_; (try clear hb); (try clear hb2); (try clear hk); (try clear hi)))
  (try simp only [Act.put, List.setIfInBounds_toArray, List.set_cons_zero, List.set_cons_succ])
  go_cut [16] (fun v16 wc => ∃ (kq : Nat) (x16_5 : Bool), v16 = .bool x16_5 ∧ Aside0 (masterdisclaw21_DirectoryCompares.j0 kq a0 a1 a2 x16_5 = some r) ∧ Aside0 (kq ≤ k) ∧ Aside0 (Below w.heap.size w wc))
  case first =>
   have H := HC6.out
   clear HC6
   by_cases c8 : (a0.size : Int) > 300
   ·rw [if_pos c8] at H
    have c8b0 : decide (300 < (a0.size : Int)) = true := decide_eq_true c8
    have c8b1 : decide (300 < a0.size) = true := decide_eq_true (by omega)
    clear c8
    (first | rw [c8b0] | (simp only [i64_w, i32_w]; rw [c8b0]) | skip)
    have H' := Aside0.mk H
    clear H
    go_wp2
    go_meet
    case rel => exact ⟨_, (true), (by first | rfl | (simp; done) | (simp [*]; done)), H', ⟨by first | omega | exact Nat.le_refl _⟩, ⟨by repeat (first | (with_reducible first | exact HB.out | apply below_alloc | apply pw_below_drewN | apply below_drew1) | exact HB.out)⟩⟩
   ·rw [if_neg c8] at H
    have c8b0 : decide (300 < (a0.size : Int)) = false := decide_eq_false c8
    have c8b1 : decide (300 < a0.size) = false := decide_eq_false (by omega)
    clear c8
    (first | rw [c8b0] | (simp only [i64_w, i32_w]; rw [c8b0]) | skip)
    have H' := Aside0.mk H
    clear H
    go_wp2
    go_meet
    case rel => exact ⟨_, (decide ((a1.size : Int) > 300)), (by first | rfl | (simp; done) | (simp [*]; done)), H', ⟨by first | omega | exact Nat.le_refl _⟩, ⟨by repeat (first | (with_reducible first | exact HB.out | apply below_alloc | apply pw_below_drewN | apply below_drew1) | exact HB.out)⟩⟩
  case rest =>
   clear HC6
   try clear p2
   try clear c3
   try clear c5
   try clear c8
   try clear c8b0
   try clear c8b1
   obtain ⟨kq, x16_5, rfl, HA, HJ5, HB⟩ := hcut
   cases kq with
   | zero => exact absurd HA.out (by simp [masterdisclaw21_DirectoryCompares.j0])
   | succ kj5 =>
    have H := HA.out
    clear HA
    simp only [masterdisclaw21_DirectoryCompares.j0] at H
    by_cases c9 : x16_5 = true
    ·subst c9
     have H1 : (some true) = some r := by rw [if_pos rfl] at H; exact H
     clear H
     have H := H1
     clear H1
     obtain rfl := Option.some.inj H
     go_wp2
     go_ret
     exact ⟨by first | rfl | (simp [errW_none, errW_some] <;> rfl) | (simp [*, errW_none, errW_some] <;> rfl), by repeat (first | (with_reducible first | exact HB.out | apply below_alloc | apply pw_below_drewN | apply below_drew1) | exact HB.out)⟩
    ·replace c9 := Bool.eq_false_iff.mpr c9
     subst c9
     have H1 : ((directory_Compare.f kj5 a0 a1 a2).bind fun t229 => ((masterdisclaw21_sign.f t229).bind fun t230 => ((masterdiscref21_Compare.f kj5 a0 a1 a2).bind fun t231 => ((masterdisclaw21_sign.f t231).bind fun t232 => (some (t230 == t232)))))) = some r := by rw [if_neg (show ¬ (false = true) by decide)] at H; exact H
     clear H
     have H := H1
     clear H1
     replace H := Option.bind_eq_some_iff.mp H
     obtain ⟨t229, A100, H⟩ := H
     replace H : ((masterdisclaw21_sign.f t229).bind fun t230 => ((masterdiscref21_Compare.f kj5 a0 a1 a2).bind fun t231 => ((masterdisclaw21_sign.f t231).bind fun t232 => (some (t230 == t232))))) = some r := H
     have A10 := Aside0.mk A100
     clear A100
     replace H := Option.bind_eq_some_iff.mp H
     obtain ⟨t230, A110, H⟩ := H
     replace H : ((masterdiscref21_Compare.f kj5 a0 a1 a2).bind fun t231 => ((masterdisclaw21_sign.f t231).bind fun t232 => (some (t230 == t232)))) = some r := H
     have A11 := Aside0.mk A110
     clear A110
     replace H := Option.bind_eq_some_iff.mp H
     obtain ⟨t231, A120, H⟩ := H
     replace H : ((masterdisclaw21_sign.f t231).bind fun t232 => (some (t230 == t232))) = some r := H
     have A12 := Aside0.mk A120
     clear A120
     replace H := Option.bind_eq_some_iff.mp H
     obtain ⟨t232, A130, H⟩ := H
     replace H : (some (t230 == t232)) = some r := H
     have A13 := Aside0.mk A130
     clear A130
     obtain rfl := Option.some.inj H
     go_wp2_with (first | ((with_reducible refine gate_callee (f := 11) rfl ?_); refine goesL_ (some 20) rfl rfl Tryz.func11 (by kernel_rfl) rfl #[.string a0, .string a1, .bool a2] rfl (by (try simp only [List.map_toArray, List.map_cons, List.map_nil]); first | done | rfl | (simp only [List.length_drop, List.length_take]; rfl)) ?_; (with_reducible refine (directory_Compare.calls kj5 a0 a1 a2 t229 _ A10.out).mono ?_); rintro e w14 ⟨rfl, hb⟩; refine ⟨_, rfl, ?_⟩; have n0_ := Aside0.mk (below_step (by repeat (first | (with_reducible first | exact HB.out | apply below_alloc | apply pw_below_drewN | apply below_drew1) | exact HB.out)) hb); clear HB; have HB := n0_; clear n0_; (try clear hb); (try clear hb2); (try clear hk); (try clear hi)) | ((with_reducible refine gate_callee (f := 10) rfl ?_); refine goesL_ (some 21) rfl rfl Tryz.func10 (by kernel_rfl) rfl #[.int .i64 t229] rfl (by (try simp only [List.map_toArray, List.map_cons, List.map_nil]); first | done | rfl | (simp only [List.length_drop, List.length_take]; rfl)) ?_; (with_reducible refine (masterdisclaw21_sign.calls t229 t230 _ A11.out).mono ?_); rintro e w' ⟨rfl, ⟨nd, rfl⟩⟩; refine ⟨_, rfl, ?_⟩) | ((with_reducible refine gate_callee (f := 12) rfl ?_); refine goesL_ (some 25) rfl rfl Tryz.func12 (by kernel_rfl) rfl #[.string a0, .string a1, .bool a2] rfl (by (try simp only [List.map_toArray, List.map_cons, List.map_nil]); first | done | rfl | (simp only [List.length_drop, List.length_take]; rfl)) ?_; (with_reducible refine (masterdiscref21_Compare.calls kj5 a0 a1 a2 t231 _ A12.out).mono ?_); rintro e w15 ⟨rfl, hb⟩; refine ⟨_, rfl, ?_⟩; have n0_ := Aside0.mk (below_step (by repeat (first | (with_reducible first | exact HB.out | apply below_alloc | apply pw_below_drewN | apply below_drew1) | exact HB.out)) hb); clear HB; have HB := n0_; clear n0_; (try clear hb); (try clear hb2); (try clear hk); (try clear hi)) | ((with_reducible refine gate_callee (f := 10) rfl ?_); refine goesL_ (some 26) rfl rfl Tryz.func10 (by kernel_rfl) rfl #[.int .i64 t231] rfl (by (try simp only [List.map_toArray, List.map_cons, List.map_nil]); first | done | rfl | (simp only [List.length_drop, List.length_take]; rfl)) ?_; (with_reducible refine (masterdisclaw21_sign.calls t231 t232 _ A13.out).mono ?_); rintro e w' ⟨rfl, ⟨nd, rfl⟩⟩; refine ⟨_, rfl, ?_⟩))
     go_ret
     exact ⟨by first | rfl | (simp [errW_none, errW_some] <;> rfl) | (simp [*, errW_none, errW_some] <;> rfl), by repeat (first | (with_reducible first | exact HB.out | apply below_alloc | apply pw_below_drewN | apply below_drew1) | exact HB.out)⟩
 ·replace c5 := Bool.eq_false_iff.mpr c5
  subst c5
  have H1 : (some false) = some r := by rw [if_neg (show ¬ (false = true) by decide)] at H; exact H
  clear H
  have H := H1
  clear H1
  obtain rfl := Option.some.inj H
  go_enter Tryz.func3, Tryz.ntmps3
  go_wp2_with (first | ((with_reducible refine gate_callee (f := 9) rfl ?_); refine goesL_ (some 7) rfl rfl Tryz.func9 (by kernel_rfl) rfl #[] rfl (by (try simp only [List.map_toArray, List.map_cons, List.map_nil]); first | done | rfl | (simp only [List.length_drop, List.length_take]; rfl)) ?_; (with_reducible refine (masterdisclaw21_awake.calls  false _ A4.out).mono ?_); rintro e w16 ⟨rfl, hb⟩; refine ⟨_, rfl, ?_⟩; have n0_ := Aside0.mk (below_step (by repeat (first | (with_reducible first | exact HB.out | apply below_alloc | apply pw_below_drewN | apply below_drew1) | exact HB.out)) hb); clear HB; have HB := n0_; clear n0_; (try clear hb); (try clear hb2); (try clear hk); (try clear hi)))
  go_ret
  exact ⟨by first | rfl | (simp [errW_none, errW_some] <;> rfl) | (simp [*, errW_none, errW_some] <;> rfl), by repeat (first | (with_reducible first | exact HB.out | apply below_alloc | apply pw_below_drewN | apply below_drew1) | exact HB.out)⟩

/-! ### masterdiscref21_Small: function 13 -/
/-! ### masterdiscref21_Find: function 15 -/
-- NOT PRINTED: function 18 (masterdiscref21_Sort)

-- NOT PRINTED: function 4 (masterdisclaw21_DirectorySorts)

end Go.Proofs.YthblghfobnhoeaaGreat.A
namespace Go.Proofs.YthblghfobnhoeaaGreat.Q
open Go.RowKit Go.Proofs.YthblghfobnhoeaaGreatW.PrintWords Go.Proofs.YthblghfobnhoeaaGreatW.PrintLast Go.Proofs.YthblghfobnhoeaaGreat.A Go.Proofs.YthblghfobnhoeaaGreat.H
set_option linter.unusedVariables false

/-! The reference's Compare has the sign of the order of the keys. -/
theorem special_f (a : ByteArray) : masterdiscref21_special.f a = some (rankP a) := by
  unfold masterdiscref21_special.f rankP
  split
  · rfl
  · split <;> rfl
theorem atF_bt (s : ByteArray) (f : Int) (i : Nat) (h : i < s.size) : atF s f i = bt s (i : Int) := by unfold atF; rw [if_pos h]
theorem atF_f (s : ByteArray) (f : Int) (i : Nat) (h : ¬ i < s.size) : atF s f i = f := by unfold atF; rw [if_neg h]
theorem padded_j3 (k : Nat) (a b : ByteArray) (f : Int) (i : Nat) (hi : i ≤ 2000) (x y : Int) : masterdiscref21_padded.j3 (k + 1) a b f (i : Int) x y = if cmpV x y = 0 then masterdiscref21_padded.l0 k a b f ((i + 1 : Nat) : Int) else some (cmpV x y) := by
  have hw : wrap64 ((i : Int) + 1) = ((i + 1 : Nat) : Int) := by rw [wrap_id (by omega) (by omega)]; omega
  rw [masterdiscref21_padded.j3, hw]
  rcases cmpV_cases x y with h | h | h
  · rw [if_pos h.1, h.2, if_neg (by decide)]
  · rw [if_neg (by omega), if_neg (by omega), h.2, if_pos rfl]
  · rw [if_neg (by omega), if_pos h.1, h.2, if_neg (by decide)]
theorem padded_j2 (k : Nat) (a b : ByteArray) (f : Int) (i : Nat) (hi : i ≤ 2000) (x : Int) : masterdiscref21_padded.j2 (k + 2) a b f (i : Int) x f = if cmpV x (atF b f i) = 0 then masterdiscref21_padded.l0 k a b f ((i + 1 : Nat) : Int) else some (cmpV x (atF b f i)) := by
  rw [masterdiscref21_padded.j2]
  by_cases h : i < b.size
  · rw [if_pos (by omega), if_pos (by omega), padded_j3 _ _ _ _ _ hi, atF_bt b f i h]
  · rw [if_neg (by omega), padded_j3 _ _ _ _ _ hi, atF_f b f i h]
theorem padded_j1 (k : Nat) (a b : ByteArray) (f : Int) (i : Nat) (hi : i ≤ 2000) : masterdiscref21_padded.j1 (k + 3) a b f (i : Int) true = if cmpV (atF a f i) (atF b f i) = 0 then masterdiscref21_padded.l0 k a b f ((i + 1 : Nat) : Int) else some (cmpV (atF a f i) (atF b f i)) := by
  rw [masterdiscref21_padded.j1, if_pos rfl]
  by_cases h : i < a.size
  · rw [if_pos (by omega), if_pos (by omega), padded_j2 _ _ _ _ _ hi, atF_bt a f i h]
  · rw [if_neg (by omega), padded_j2 _ _ _ _ _ hi, atF_f a f i h]
theorem padded_l (a b : ByteArray) (f : Int) (n : Nat) (hn : n = max a.size b.size) (h2 : n ≤ 2000) (j : Nat) : ∀ (k i : Nat), i + j = n → 4 * j + 3 ≤ k → masterdiscref21_padded.l0 k a b f (i : Int) = some (bhV a b f j i) := by
  induction j with
  | zero =>
    intro k i hi hk
    obtain ⟨k, rfl⟩ : ∃ m, k = m + 2 := ⟨k - 2, by omega⟩
    rw [masterdiscref21_padded.l0, if_neg (by omega), decide_eq_false (by omega), masterdiscref21_padded.j1, if_neg (by decide)]; rfl
  | succ j ih =>
    intro k i hi hk
    obtain ⟨k, rfl⟩ : ∃ m, k = m + 4 := ⟨k - 4, by omega⟩
    have hr := padded_j1 k a b f i (by omega)
    rw [ih k (i + 1) (by omega) (by omega)] at hr
    rw [bhV, masterdiscref21_padded.l0]
    by_cases h : i < a.size
    · rw [if_pos (by omega), hr]
      split <;> rfl
    · rw [if_neg (by omega), decide_eq_true (by omega), hr]
      split <;> rfl
theorem padded_f (a b : ByteArray) (f : Int) (ha : a.size ≤ 1000) (hb : b.size ≤ 1000) (k : Nat) (hk : 4003 ≤ k) : masterdiscref21_padded.f k a b f = some (cmpK (keyF a.data.toList f 1000) (keyF b.data.toList f 1000)) := by
  unfold masterdiscref21_padded.f
  have := padded_l a b f _ rfl (by omega) (max a.size b.size) k 0 (by omega) (by omega)
  rw [bh_cmp a b f 1000 ha hb] at this
  exact this
theorem padded_mk (x y : List UInt8) (f : Int) (hx : x.length ≤ 1000) (hy : y.length ≤ 1000) (k : Nat) (hk : 4003 ≤ k) : masterdiscref21_padded.f k (mkB x) (mkB y) f = some (cmpK (keyF x f 1000) (keyF y f 1000)) :=
  padded_f (mkB x) (mkB y) f (by rw [mkB_size]; exact hx) (by rw [mkB_size]; exact hy) k hk
theorem find_l (s : ByteArray) (x y : UInt8) (hs : s.size ≤ 100000) (j : Nat) : ∀ (k i : Nat), i + j = s.size → j + 1 ≤ k →
    masterdiscref21_find.l0 k s (x.toNat : Int) (y.toNat : Int) (i : Int) = some ((i + ((s.data.toList.drop i).takeWhile fun c => !(c == x || c == y)).length : Nat) : Int) := by
  have hl : s.data.toList.length = s.size := Array.length_toList
  induction j with
  | zero =>
    intro k i hi hk
    obtain ⟨k, rfl⟩ : ∃ m, k = m + 1 := ⟨k - 1, by omega⟩
    rw [masterdiscref21_find.l0, if_neg (by omega), List.drop_of_length_le (by omega)]
    simp; omega
  | succ j ih =>
    intro k i hi hk
    obtain ⟨k, rfl⟩ : ∃ m, k = m + 1 := ⟨k - 1, by omega⟩
    have hw : wrap64 ((i : Int) + 1) = ((i + 1 : Nat) : Int) := by rw [wrap_id (by omega) (by omega)]; omega
    have hd : s.data.toList.drop i = s.data.toList[i]'(by omega) :: s.data.toList.drop (i + 1) := List.drop_eq_getElem_cons (by omega)
    have hb := bt_head s i _ _ hd
    rw [masterdiscref21_find.l0, if_pos (by omega), if_pos (by omega), hb, hd, List.takeWhile_cons]
    generalize s.data.toList[i]'(by omega) = c
    have hx : ((c.toNat : Int) = (x.toNat : Int)) ↔ c = x := ⟨fun h => UInt8.toNat_inj.1 (by omega), fun h => by rw [h]⟩
    have hy : ((c.toNat : Int) = (y.toNat : Int)) ↔ c = y := ⟨fun h => UInt8.toNat_inj.1 (by omega), fun h => by rw [h]⟩
    by_cases h1 : c = x
    · rw [if_pos (hx.2 h1)]; simp [h1]
    · rw [if_neg (fun h => h1 (hx.1 h))]
      by_cases h2 : c = y
      · rw [if_pos (hy.2 h2)]; simp [h2]
      · rw [if_neg (fun h => h2 (hy.1 h)), hw, ih k (i + 1) (by omega) (by omega)]
        have hf : (!(c == x || c == y)) = true := by simp [h1, h2]
        rw [hf, if_pos rfl, List.length_cons]
        congr 1; omega
theorem find_f (s : ByteArray) (x y : UInt8) (hs : s.size ≤ 100000) (k : Nat) (hk : s.size + 1 ≤ k) : masterdiscref21_find.f k s (x.toNat : Int) (y.toNat : Int) = some ((s.data.toList.takeWhile fun c => !(c == x || c == y)).length : Int) := by
  unfold masterdiscref21_find.f
  have := find_l s x y hs s.size k 0 (by omega) (by omega)
  rw [List.drop_zero, Nat.zero_add] at this
  exact this
set_option maxHeartbeats 2000000 in
theorem rparts_f (s : ByteArray) (hs : s.size ≤ 1000) (k : Nat) (hk : 1100 ≤ k) : masterdiscref21_Parts.f k s = some (mkB (partsL s.data.toList).1, mkB (partsL s.data.toList).2.1, mkB (partsL s.data.toList).2.2) := by
  obtain ⟨k, rfl⟩ : ∃ m, k = m + 1 := ⟨k - 1, by omega⟩
  unfold masterdiscref21_Parts.f
  have hf := find_f s 46 59 (by omega) (k + 1) (by omega)
  rw [show ((46 : UInt8).toNat : Int) = 46 from rfl, show ((59 : UInt8).toNat : Int) = 59 from rfl] at hf
  have hp : (fun c : UInt8 => !(c == 46 || c == 59)) = fun c => !isDot c := rfl
  rw [hp] at hf
  rw [hf, Option.bind_some]
  have htd := tw_dw (fun c => !isDot c) s.data.toList
  have hl : s.data.toList.length = s.size := Array.length_toList
  have hn : s.extract 0 (s.data.toList.takeWhile fun c => !isDot c).length = mkB (s.data.toList.takeWhile fun c => !isDot c) := ba_ext (by rw [ext_take, tw_take]; rfl)
  rw [if_pos (by omega), if_pos (by omega), Int.toNat_natCast, hn]
  unfold partsL
  cases h : s.data.toList.dropWhile (fun c => !isDot c) with
  | nil =>
    rw [h, List.length_nil] at htd
    have he : s.data.toList.takeWhile (fun c => !isDot c) = s.data.toList := by
      conv => rhs; rw [← List.takeWhile_append_dropWhile (p := fun c => !isDot c) (l := s.data.toList), h, List.append_nil]
    rw [if_neg (by omega), masterdiscref21_Parts.j0, if_neg (by decide), if_neg (by omega), he]
    rfl
  | cons c r =>
    rw [h, List.length_cons] at htd
    have hd : s.data.toList.drop (s.data.toList.takeWhile fun c => !isDot c).length = c :: r := by rw [tw_drop, h]
    have hdot : isDot c = true := by
      have := List.head?_dropWhile_not (fun c => !isDot c) s.data.toList
      rw [h] at this
      simpa using this
    generalize hT : (s.data.toList.takeWhile fun c => !isDot c).length = T at *
    have hw : wrap64 ((T : Int) + 1) = ((T + 1 : Nat) : Int) := by rw [wrap_id (by omega) (by omega)]; omega
    have hr : (s.extract (T + 1) s.size).data.toList = r := by rw [ext_drop, ← List.drop_drop, hd]; rfl
    have hrs : (s.extract (T + 1) s.size).size = r.length := by rw [← hr]; exact Array.length_toList.symm
    rw [if_pos (by omega), bt_head s _ c r hd, masterdiscref21_Parts.j0, hw]
    by_cases hc : c = 59
    · subst hc
      rw [if_neg (by decide), if_pos (by omega), if_pos (by omega), if_pos (by omega), Int.toNat_natCast]
      simp only [if_true]
      rw [show s.extract (T + 1) s.size = mkB r from ba_ext hr]
      rfl
    · have h46 : c = 46 := by unfold isDot at hdot; simpa [hc] using hdot
      subst h46
      clear hc hdot hf
      have hf2 := find_f (s.extract (T + 1) s.size) 59 59 (by omega) k (by omega)
      rw [show ((59 : UInt8).toNat : Int) = 59 from rfl, hr] at hf2
      have hp2 : (fun c : UInt8 => !(c == 59 || c == 59)) = fun c => !(c == 59) := by funext c; rw [Bool.or_self]
      rw [hp2] at hf2
      have htd2 := tw_dw (fun c => !(c == 59)) r
      have hx : (s.extract (T + 1) s.size).extract 0 (r.takeWhile fun c => !(c == 59)).length = mkB (r.takeWhile fun c => !(c == 59)) := ba_ext (by rw [ext_take, hr, tw_take]; rfl)
      have hlast : ∀ M, (r.takeWhile fun c => !(c == 59)).length = M → s.extract (T + 1 + M + 1) s.size = mkB ((r.dropWhile fun c => !(c == 59)).drop 1) := by
        intro M hM
        apply ba_ext
        rw [ext_drop, mkB_list, ← tw_drop, hM, ← hr, ext_drop, List.drop_drop, List.drop_drop]
        congr 1
      have hlen0 : (r.dropWhile fun c => !(c == 59)) = [] ∨ 0 < (r.dropWhile fun c => !(c == 59)).length := by
        cases r.dropWhile fun c => !(c == 59) with
        | nil => exact .inl rfl
        | cons a b => exact .inr (by rw [List.length_cons]; exact Nat.succ_pos _)
      generalize hM : (r.takeWhile fun c => !(c == 59)).length = M at *
      have hl2 := hlast M rfl
      clear hlast
      simp only [show ((46 : UInt8) = 59) = False by decide, if_false]
      rw [← hl2, ← hx]
      generalize hN : (r.dropWhile fun c => !(c == 59)) = N at *
      clear hN hM hx hp2 hr h hd hT hn hp hw
      have w2 : wrap64 (((T + 1 : Nat) : Int) + (M : Int)) = ((T + 1 + M : Nat) : Int) := by rw [wrap_id (by omega) (by omega)]; omega
      have w3 : wrap64 (((T + 1 + M : Nat) : Int) + 1) = ((T + 1 + M + 1 : Nat) : Int) := by rw [wrap_id (by omega) (by omega)]; omega
      rw [if_pos (by decide), if_pos (by omega), if_pos (by omega), Int.toNat_natCast, hf2, Option.bind_some, if_pos (by omega), if_pos (by omega), w2, w3, Int.toNat_natCast, Int.toNat_natCast]
      rcases hlen0 with h0 | h0
      · have hN0 : N.length = 0 := by rw [h0]; rfl
        rw [if_neg (by omega)]
        have he : s.extract (T + 1 + M + 1) s.size = ⟨#[]⟩ := by rw [hl2, h0]; rfl
        rw [he]
      · rw [if_pos (by omega), if_pos (by omega), if_pos (by omega)]
theorem rrep_l (c n : Int) (hn : n ≤ 100000) (j : Nat) : ∀ (k i : Nat), (n = (i : Int) + j ∨ (j = 0 ∧ n ≤ (i : Int))) → j + 1 ≤ k → i ≤ 100000 → masterdiscref01_Repeat.l0 k c n (List.replicate i c) (i : Int) = some (strOfNums (List.replicate (i + j) c)) := by
  induction j with
  | zero =>
    intro k i hi hk hi2
    obtain ⟨k, rfl⟩ : ∃ m, k = m + 1 := ⟨k - 1, by omega⟩
    rw [masterdiscref01_Repeat.l0, if_neg (by omega)]; rfl
  | succ j ih =>
    intro k i hi hk hi2
    obtain ⟨k, rfl⟩ : ∃ m, k = m + 1 := ⟨k - 1, by omega⟩
    have hw : wrap64 ((i : Int) + 1) = ((i + 1 : Nat) : Int) := by rw [wrap_id (by omega) (by omega)]; omega
    rw [masterdiscref01_Repeat.l0, if_pos (by omega), if_pos (by rw [List.length_replicate]; omega), hw, ← List.replicate_succ', ih k (i + 1) (by omega) (by omega) (by omega)]
    rw [show i + 1 + j = i + (j + 1) by omega]
theorem rrep_f (c n : Int) (hn : n ≤ 100000) (k : Nat) (hk : n.toNat + 1 ≤ k) : masterdiscref01_Repeat.f k c n = some (strOfNums (List.replicate n.toNat c)) := by
  unfold masterdiscref01_Repeat.f
  have := rrep_l c n hn n.toNat k 0 (by omega) (by omega) (by omega)
  rw [Nat.zero_add] at this
  exact this
theorem rrep_list (n : Nat) : (strOfNums (List.replicate n 48)).data.toList = List.replicate n 48 := by
  rw [strOfNums_data, List.map_replicate]; rfl
/-- A number's sign. -/
def sgn (n : Int) : Int := if n < 0 then -1 else if n > 0 then 1 else 0
theorem sign_f (n : Int) : masterdisclaw21_sign.f n = some (sgn n) := by
  unfold masterdisclaw21_sign.f sgn
  split
  · rfl
  · split <;> rfl
theorem sgn_cmpK (x y : List Int) : sgn (cmpK x y) = cmpK x y := by
  rcases cmpK_val x y with h | h | h <;> rw [h] <;> rfl
theorem sgn_cmpV (x y : Int) : sgn (x - y) = cmpV x y := by
  unfold sgn
  rcases cmpV_cases x y with h | h | h
  · rw [if_pos (by omega), h.2]
  · rw [if_neg (by omega), if_neg (by omega), h.2]
  · rw [if_neg (by omega), if_pos (by omega), h.2]
theorem keyF_full (l : List UInt8) (f : Int) (n : Nat) (h : l.length = n) : keyF l f n = bl2 l := by
  unfold keyF; rw [h, Nat.sub_self, List.replicate_zero, List.append_nil]
theorem rver (v z : List UInt8) (hv : v.length ≤ 1000) (hz : z.length ≤ 1000) (k : Nat) (hk : 4003 ≤ k) :
    ((masterdiscref01_Repeat.f k 48 (wrap64 (((mkB z).size : Int) - ((mkB v).size : Int)))).bind fun t225 => (if t225.size + (mkB v).size ≤ 9223372036854775807 then ((masterdiscref01_Repeat.f k 48 (wrap64 (((t225 ++ mkB v).size : Int) - ((mkB z).size : Int)))).bind fun t226 => (if t226.size + (mkB z).size ≤ 9223372036854775807 then ((masterdiscref21_padded.f k (t226 ++ mkB z) (t225 ++ mkB v) 48).bind fun t227 => (some t227)) else (none))) else (none))) = some (cmpK (verK v 1000) (verK z 1000)) := by
  have hs : ∀ m : Nat, (strOfNums (List.replicate m 48)).size = m := fun m => by rw [nums_size, List.length_replicate]
  simp only [mkB_size]
  rw [wrap_id (by omega) (by omega), rrep_f _ _ (by omega) k (by omega), Option.bind_some]
  rw [hs, if_pos (by omega), ByteArray.size_append, hs, mkB_size, wrap_id (by omega) (by omega), rrep_f _ _ (by omega) k (by omega), Option.bind_some, hs, if_pos (by omega)]
  generalize ha : ((z.length : Int) - (v.length : Int)).toNat = a
  generalize hb : (((a + v.length : Nat) : Int) - (z.length : Int)).toNat = b
  have hm : a + v.length = max v.length z.length := by omega
  have hm2 : b + z.length = max v.length z.length := by omega
  have e : ∀ (m : Nat) (x : List UInt8), (strOfNums (List.replicate m 48) ++ mkB x).data.toList = List.replicate m 48 ++ x := by
    intro m x; rw [ByteArray.data_append, Array.toList_append, rrep_list]; rfl
  have es : ∀ (m : Nat) (x : List UInt8), (strOfNums (List.replicate m 48) ++ mkB x).size = m + x.length := by
    intro m x; rw [ByteArray.size_append, hs, mkB_size]
  have e2 : ∀ (m : Nat) (x : List UInt8), bl2 (List.replicate m 48 ++ x) = List.replicate m (48 : Int) ++ bl2 x := by
    intro m x; unfold bl2; rw [List.map_append, List.map_replicate]; rfl
  rw [padded_f _ _ 48 (by rw [es]; omega) (by rw [es]; omega) k hk, Option.bind_some, e, e]
  have k1 : ∀ (m : Nat) (x : List UInt8), m + x.length = max v.length z.length → keyF (List.replicate m 48 ++ x) 48 1000 = bl2 (List.replicate m 48 ++ x) ++ List.replicate (1000 - max v.length z.length) 48 := by
    intro m x h; unfold keyF; rw [List.length_append, List.length_replicate, h]
  rw [k1 b z hm2, k1 a v hm, cmpK_tail _ _ _ (by rw [bl2_length, bl2_length, List.length_append, List.length_append, List.length_replicate, List.length_replicate]; omega), e2, e2]
  rw [ver_cmp v z (max v.length z.length) (by omega) (by omega) (by omega)]
  rw [show max v.length z.length - z.length = b by omega, show max v.length z.length - v.length = a by omega]
/-- The reference's Compare. -/
theorem rcompare_f (a b : ByteArray) (w : Bool) (ha : a.size ≤ 1000) (hb : b.size ≤ 1000) (k : Nat) (hk : 4010 ≤ k) : ∃ d, masterdiscref21_Compare.f k a b w = some d ∧ sgn d = cmpK (key w a) (key w b) := by
  obtain ⟨k, rfl⟩ : ∃ m, k = m + 1 := ⟨k - 1, by omega⟩
  have ra := rankP_bd a
  have rb := rankP_bd b
  have la : a.data.toList.length = a.size := Array.length_toList
  have lb : b.data.toList.length = b.size := Array.length_toList
  obtain ⟨pa1, pa2, pa3⟩ := parts_len a.data.toList
  obtain ⟨pb1, pb2, pb3⟩ := parts_len b.data.toList
  have hlow : (rankP a < 2 ∨ rankP b < 2) → ∃ d, masterdiscref21_Compare.j0 (k + 1) a b w true = some d ∧ sgn d = cmpK (key w a) (key w b) := by
    intro h
    rw [masterdiscref21_Compare.j0, if_pos rfl, special_f, special_f, Option.bind_some, Option.bind_some, wrap_id (by omega) (by omega)]
    refine ⟨_, rfl, ?_⟩
    rw [sgn_cmpV]
    unfold key
    rw [cmpK]
    rcases cmpV_cases (rankP a) (rankP b) with c | c | c
    · rw [c.2, if_neg (by decide)]
    · rw [c.2, if_pos rfl, rankP_same a b c.1 (by omega), cmpK_self]
    · rw [c.2, if_neg (by decide)]
  unfold masterdiscref21_Compare.f
  rw [special_f, Option.bind_some]
  by_cases h1 : rankP a < 2
  · rw [if_pos h1]; exact hlow (.inl h1)
  · rw [if_neg h1, special_f, Option.bind_some]
    by_cases h2 : rankP b < 2
    · rw [decide_eq_true h2]; exact hlow (.inr h2)
    · rw [decide_eq_false h2, masterdiscref21_Compare.j0, if_neg (by decide)]
      have hk : cmpK (key w a) (key w b) = cmpK (keyR w a) (keyR w b) := by
        unfold key
        rw [cmpK, show rankP a = rankP b by omega, cmpV_self, if_pos rfl]
      rw [hk]
      unfold keyR
      cases w
      · rw [if_neg (by decide), if_neg (by decide), if_neg (by decide), rparts_f a (by omega) k (by omega), rparts_f b (by omega) k (by omega), Option.bind_some, Option.bind_some]
        rw [padded_mk _ _ 32 (by omega) (by omega) k (by omega), Option.bind_some]
        generalize hA : partsL a.data.toList = A at *
        generalize hB : partsL b.data.toList = B at *
        have l1 : (keyF A.1 32 1000).length = (keyF B.1 32 1000).length := by rw [keyF_length _ _ _ (by omega), keyF_length _ _ _ (by omega)]
        have l2 : (keyF A.2.1 32 1000).length = (keyF B.2.1 32 1000).length := by rw [keyF_length _ _ _ (by omega), keyF_length _ _ _ (by omega)]
        rw [cmpK_app _ _ _ _ l1, cmpK_app _ _ _ _ l2]
        by_cases c1 : cmpK (keyF A.1 32 1000) (keyF B.1 32 1000) = 0
        · rw [if_pos c1, if_pos c1, padded_mk _ _ 32 (by omega) (by omega) k (by omega), Option.bind_some]
          by_cases c2 : cmpK (keyF A.2.1 32 1000) (keyF B.2.1 32 1000) = 0
          · rw [if_pos c2, if_pos c2, rver A.2.2 B.2.2 (by omega) (by omega) k (by omega)]
            exact ⟨_, rfl, sgn_cmpK _ _⟩
          · rw [if_neg c2, if_neg c2]
            exact ⟨_, rfl, sgn_cmpK _ _⟩
        · rw [if_neg c1, if_neg c1]
          exact ⟨_, rfl, sgn_cmpK _ _⟩
      · rw [if_pos rfl, if_pos rfl, if_pos rfl, padded_f a b 0 ha hb k (by omega), Option.bind_some]
        exact ⟨_, rfl, sgn_cmpK _ _⟩

/-- DirectoryCompares returns true. -/
theorem compares_true (a b : ByteArray) (w : Bool) : masterdisclaw21_DirectoryCompares.f 5000 a b w = some true := by
  unfold masterdisclaw21_DirectoryCompares.f masterdisclaw21_awake.f
  rw [Option.bind_some, if_pos rfl]
  by_cases h1 : (a.size : Int) > 300
  · rw [if_pos h1, masterdisclaw21_DirectoryCompares.j0, if_pos rfl]
  · rw [if_neg h1]
    by_cases h2 : (b.size : Int) > 300
    · rw [decide_eq_true h2, masterdisclaw21_DirectoryCompares.j0, if_pos rfl]
    · obtain ⟨d, hd, hs⟩ := rcompare_f a b w (by omega) (by omega) 4999 (by decide)
      rw [decide_eq_false h2, masterdisclaw21_DirectoryCompares.j0, if_neg (by decide), compare_f a b w (by omega) (by omega) 4999 (by decide), Option.bind_some, sign_f, Option.bind_some, hd, Option.bind_some, sign_f, Option.bind_some, hs, sgn_cmpK, beq_self_eq_true]

end Go.Proofs.YthblghfobnhoeaaGreat.Q
