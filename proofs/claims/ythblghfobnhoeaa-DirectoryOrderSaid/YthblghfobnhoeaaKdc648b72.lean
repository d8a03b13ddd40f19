import Derived.Test.YthblghfobnhoeaaK5002658f
import Derived.Test.YthblghfobnhoeaaK457671b7
import Derived.Test.YthblghfobnhoeaaK09cf2c1d
import Derived.Test.YthblghfobnhoeaaK9f73839b
namespace Go.Proofs.Ythblghfobnhoeaa.A
open Go.RowKit Go.Proofs.Ythblghfobnhoeaa.H Go.Proofs.YthblghfobnhoeaaW.PrintWords Go.Proofs.YthblghfobnhoeaaW.PrintLast Go.Proofs.YthblghfobnhoeaaW.PrintMore
attribute [local go_sem] max2_int min2_int max_two min_two max_three min_three max_four min_four   -- for this text's walks alone
set_option linter.unusedVariables false
set_option linter.unusedSimpArgs false

/-! ### masterdisclaw21_DirectoryOrder: function 3 -/
mutual
def masterdisclaw21_DirectoryOrder.j0 : Nat → ByteArray → ByteArray → ByteArray → Bool → Bool → Option (Bool)
 | 0, _, _, _, _, _ => none
 | k + 1, x0, x1, x2, x3, x26 => if x26 = true then (some true) else ((directory_Compare.f k x0 x1 x3).bind fun t205 => ((directory_Compare.f k x1 x2 x3).bind fun t206 => ((directory_Compare.f k x0 x2 x3).bind fun t207 => ((directory_Compare.f k x1 x0 x3).bind fun t208 => ((masterdisclaw21_sign.f t208).bind fun t209 => ((masterdisclaw21_sign.f t205).bind fun t210 => (if t209 = (wrap64 (-t210)) then ((directory_Compare.f k x0 x0 x3).bind fun t211 => (masterdisclaw21_DirectoryOrder.j1 k t205 t206 t207 (t211 != 0))) else (masterdisclaw21_DirectoryOrder.j1 k t205 t206 t207 true))))))))
def masterdisclaw21_DirectoryOrder.j1 : Nat → Int → Int → Int → Bool → Option (Bool)
 | 0, _, _, _, _ => none
 | k + 1, x9, x10, x11, x54 => if x54 = true then (some false) else (if x9 ≤ 0 then (if x10 ≤ 0 then (if x11 > 0 then (some false) else (if x9 ≥ 0 then (if x10 ≥ 0 then (if x11 < 0 then (some false) else (if x9 = 0 then ((masterdisclaw21_sign.f x10).bind fun t212 => ((masterdisclaw21_sign.f x11).bind fun t213 => (some (!(t212 != t213))))) else (some (!false)))) else (if x9 = 0 then ((masterdisclaw21_sign.f x10).bind fun t214 => ((masterdisclaw21_sign.f x11).bind fun t215 => (some (!(t214 != t215))))) else (some (!false)))) else (if x9 = 0 then ((masterdisclaw21_sign.f x10).bind fun t216 => ((masterdisclaw21_sign.f x11).bind fun t217 => (some (!(t216 != t217))))) else (some (!false))))) else (if x9 ≥ 0 then (if x10 ≥ 0 then (if x11 < 0 then (some false) else (if x9 = 0 then ((masterdisclaw21_sign.f x10).bind fun t218 => ((masterdisclaw21_sign.f x11).bind fun t219 => (some (!(t218 != t219))))) else (some (!false)))) else (if x9 = 0 then ((masterdisclaw21_sign.f x10).bind fun t220 => ((masterdisclaw21_sign.f x11).bind fun t221 => (some (!(t220 != t221))))) else (some (!false)))) else (if x9 = 0 then ((masterdisclaw21_sign.f x10).bind fun t222 => ((masterdisclaw21_sign.f x11).bind fun t223 => (some (!(t222 != t223))))) else (some (!false))))) else (if x9 ≥ 0 then (if x10 ≥ 0 then (if x11 < 0 then (some false) else (if x9 = 0 then ((masterdisclaw21_sign.f x10).bind fun t224 => ((masterdisclaw21_sign.f x11).bind fun t225 => (some (!(t224 != t225))))) else (some (!false)))) else (if x9 = 0 then ((masterdisclaw21_sign.f x10).bind fun t226 => ((masterdisclaw21_sign.f x11).bind fun t227 => (some (!(t226 != t227))))) else (some (!false)))) else (if x9 = 0 then ((masterdisclaw21_sign.f x10).bind fun t228 => ((masterdisclaw21_sign.f x11).bind fun t229 => (some (!(t228 != t229))))) else (some (!false)))))
end
def masterdisclaw21_DirectoryOrder.f (k : Nat) (a0 : ByteArray) (a1 : ByteArray) (a2 : ByteArray) (a3 : Bool) : Option (Bool) := (masterdisclaw21_awake.f).bind fun t204 => (if t204 = true then (if (a0.size : Int) > 300 then (masterdisclaw21_DirectoryOrder.j0 k a0 a1 a2 a3 true) else (if (a1.size : Int) > 300 then (masterdisclaw21_DirectoryOrder.j0 k a0 a1 a2 a3 true) else (masterdisclaw21_DirectoryOrder.j0 k a0 a1 a2 a3 (decide ((a2.size : Int) > 300))))) else (some false))
set_option maxHeartbeats 8000000 in
set_option maxRecDepth 100000 in
theorem masterdisclaw21_DirectoryOrder.calls (k : Nat) (a0 : ByteArray) (a1 : ByteArray) (a2 : ByteArray) (a3 : Bool) (r : Bool) (w : World) (h : masterdisclaw21_DirectoryOrder.f k a0 a1 a2 a3 = some r) :
  Calls Try.prog 3 #[.string a0, .string a1, .string a2, .bool a3] w fun e w' => e = .returned (.bool r) ∧ Below w.heap.size w w' := by
 have HB := Aside0.mk (Below.refl w.heap.size w)
 have H : ((masterdisclaw21_awake.f).bind fun t204 => (if t204 = true then (if (a0.size : Int) > 300 then (masterdisclaw21_DirectoryOrder.j0 k a0 a1 a2 a3 true) else (if (a1.size : Int) > 300 then (masterdisclaw21_DirectoryOrder.j0 k a0 a1 a2 a3 true) else (masterdisclaw21_DirectoryOrder.j0 k a0 a1 a2 a3 (decide ((a2.size : Int) > 300))))) else (some false))) = some r := h
 clear h
 replace H := Option.bind_eq_some_iff.mp H
 obtain ⟨t204, A50, H⟩ := H
 replace H : (if t204 = true then (if (a0.size : Int) > 300 then (masterdisclaw21_DirectoryOrder.j0 k a0 a1 a2 a3 true) else (if (a1.size : Int) > 300 then (masterdisclaw21_DirectoryOrder.j0 k a0 a1 a2 a3 true) else (masterdisclaw21_DirectoryOrder.j0 k a0 a1 a2 a3 (decide ((a2.size : Int) > 300))))) else (some false)) = some r := H
 have A5 := Aside0.mk A50
 clear A50
 by_cases c6 : t204 = true
 ·subst c6
  have H1 : (if (a0.size : Int) > 300 then (masterdisclaw21_DirectoryOrder.j0 k a0 a1 a2 a3 true) else (if (a1.size : Int) > 300 then (masterdisclaw21_DirectoryOrder.j0 k a0 a1 a2 a3 true) else (masterdisclaw21_DirectoryOrder.j0 k a0 a1 a2 a3 (decide ((a2.size : Int) > 300))))) = some r := by rw [if_pos rfl] at H; exact H
  clear H
  have H := H1
  clear H1
  have HC7 := Aside0.mk H
  clear H
  go_enter Try.func3, Try.ntmps3
  go_upto_region 3 with (first | ((with_reducible refine gate_callee (f := 4) rfl ?_); refine goesL_ (some 12) rfl rfl Try.func4 (by kernel_rfl) rfl #[] rfl (by (try simp only [List.map_toArray, List.map_cons, List.map_nil]); first | done | rfl | (simp only [List.length_drop, List.length_take]; rfl)) ?_; (with_reducible refine (masterdisclaw21_awake.calls  true _ A5.out).mono ?_); rintro e w8 ⟨rfl, hb⟩; refine ⟨_, rfl, ?_⟩; have n0_ := Aside0.mk (below_step (by repeat (first | (with_reducible first | exact HB.out | apply below_alloc | apply pw_below_drewN | apply below_drew1) | exact HB.out)) hb); clear HB; have HB := n0_; clear n0_; (try clear hb); (try clear hb2); (try clear hk); (try clear hi)))
  (try simp only [Act.put, List.setIfInBounds_toArray, List.set_cons_zero, List.set_cons_succ])
  go_cut [26] (fun v26 wc => ∃ (kq : Nat) (x26_6 : Bool), v26 = .bool x26_6 ∧ Aside0 (masterdisclaw21_DirectoryOrder.j0 kq a0 a1 a2 a3 x26_6 = some r) ∧ Aside0 (kq ≤ k) ∧ Aside0 (Below w.heap.size w wc))
  case first =>
   have H := HC7.out
   clear HC7
   by_cases c9 : (a0.size : Int) > 300
   ·rw [if_pos c9] at H
    have c9b0 : decide (300 < (a0.size : Int)) = true := decide_eq_true c9
    have c9b1 : decide (300 < a0.size) = true := decide_eq_true (by omega)
    clear c9
    (first | rw [c9b0] | (simp only [i64_w, i32_w]; rw [c9b0]) | skip)
    have H' := Aside0.mk H
    clear H
    go_wp2
    go_meet
    case rel => exact ⟨_, (true), (by first | rfl | (simp; done) | (simp [*]; done)), H', ⟨by first | omega | exact Nat.le_refl _⟩, ⟨by repeat (first | (with_reducible first | exact HB.out | apply below_alloc | apply pw_below_drewN | apply below_drew1) | exact HB.out)⟩⟩
   ·rw [if_neg c9] at H
    have c9b0 : decide (300 < (a0.size : Int)) = false := decide_eq_false c9
    have c9b1 : decide (300 < a0.size) = false := decide_eq_false (by omega)
    clear c9
    (first | rw [c9b0] | (simp only [i64_w, i32_w]; rw [c9b0]) | skip)
    by_cases c10 : (a1.size : Int) > 300
    ·rw [if_pos c10] at H
     have c10b0 : decide (300 < (a1.size : Int)) = true := decide_eq_true c10
     have c10b1 : decide (300 < a1.size) = true := decide_eq_true (by omega)
     clear c10
     have H' := Aside0.mk H
     clear H
     go_wp2
     go_meet
     case rel => exact ⟨_, (true), (by first | rfl | (simp; done) | (simp [*]; done)), H', ⟨by first | omega | exact Nat.le_refl _⟩, ⟨by repeat (first | (with_reducible first | exact HB.out | apply below_alloc | apply pw_below_drewN | apply below_drew1) | exact HB.out)⟩⟩
    ·rw [if_neg c10] at H
     have c10b0 : decide (300 < (a1.size : Int)) = false := decide_eq_false c10
     have c10b1 : decide (300 < a1.size) = false := decide_eq_false (by omega)
     clear c10
     have H' := Aside0.mk H
     clear H
     go_wp2
     go_meet
     case rel => exact ⟨_, (decide ((a2.size : Int) > 300)), (by first | rfl | (simp; done) | (simp [*]; done)), H', ⟨by first | omega | exact Nat.le_refl _⟩, ⟨by repeat (first | (with_reducible first | exact HB.out | apply below_alloc | apply pw_below_drewN | apply below_drew1) | exact HB.out)⟩⟩
  case rest =>
   clear HC7
   try clear c1
   try clear p2
   try clear c3
   try clear c4
   try clear c6
   try clear c9
   try clear c9b0
   try clear c9b1
   try clear c10
   try clear c10b0
   try clear c10b1
   obtain ⟨kq, x26_6, rfl, HA, HJ6, HB⟩ := hcut
   cases kq with
   | zero => exact absurd HA.out (by simp [masterdisclaw21_DirectoryOrder.j0])
   | succ kj6 =>
    have H := HA.out
    clear HA
    simp only [masterdisclaw21_DirectoryOrder.j0] at H
    by_cases c11 : x26_6 = true
    ·subst c11
     have H1 : (some true) = some r := by rw [if_pos rfl] at H; exact H
     clear H
     have H := H1
     clear H1
     obtain rfl := Option.some.inj H
     go_wp2
     go_ret
     exact ⟨by first | rfl | (simp [errW_none, errW_some] <;> rfl) | (simp [*, errW_none, errW_some] <;> rfl), by repeat (first | (with_reducible first | exact HB.out | apply below_alloc | apply pw_below_drewN | apply below_drew1) | exact HB.out)⟩
    ·replace c11 := Bool.eq_false_iff.mpr c11
     subst c11
     have H1 : ((directory_Compare.f kj6 a0 a1 a3).bind fun t205 => ((directory_Compare.f kj6 a1 a2 a3).bind fun t206 => ((directory_Compare.f kj6 a0 a2 a3).bind fun t207 => ((directory_Compare.f kj6 a1 a0 a3).bind fun t208 => ((masterdisclaw21_sign.f t208).bind fun t209 => ((masterdisclaw21_sign.f t205).bind fun t210 => (if t209 = (wrap64 (-t210)) then ((directory_Compare.f kj6 a0 a0 a3).bind fun t211 => (masterdisclaw21_DirectoryOrder.j1 kj6 t205 t206 t207 (t211 != 0))) else (masterdisclaw21_DirectoryOrder.j1 kj6 t205 t206 t207 true)))))))) = some r := by rw [if_neg (show ¬ (false = true) by decide)] at H; exact H
     clear H
     have H := H1
     clear H1
     replace H := Option.bind_eq_some_iff.mp H
     obtain ⟨t205, A120, H⟩ := H
     replace H : ((directory_Compare.f kj6 a1 a2 a3).bind fun t206 => ((directory_Compare.f kj6 a0 a2 a3).bind fun t207 => ((directory_Compare.f kj6 a1 a0 a3).bind fun t208 => ((masterdisclaw21_sign.f t208).bind fun t209 => ((masterdisclaw21_sign.f t205).bind fun t210 => (if t209 = (wrap64 (-t210)) then ((directory_Compare.f kj6 a0 a0 a3).bind fun t211 => (masterdisclaw21_DirectoryOrder.j1 kj6 t205 t206 t207 (t211 != 0))) else (masterdisclaw21_DirectoryOrder.j1 kj6 t205 t206 t207 true))))))) = some r := H
     have A12 := Aside0.mk A120
     clear A120
     replace H := Option.bind_eq_some_iff.mp H
     obtain ⟨t206, A130, H⟩ := H
     replace H : ((directory_Compare.f kj6 a0 a2 a3).bind fun t207 => ((directory_Compare.f kj6 a1 a0 a3).bind fun t208 => ((masterdisclaw21_sign.f t208).bind fun t209 => ((masterdisclaw21_sign.f t205).bind fun t210 => (if t209 = (wrap64 (-t210)) then ((directory_Compare.f kj6 a0 a0 a3).bind fun t211 => (masterdisclaw21_DirectoryOrder.j1 kj6 t205 t206 t207 (t211 != 0))) else (masterdisclaw21_DirectoryOrder.j1 kj6 t205 t206 t207 true)))))) = some r := H
     have A13 := Aside0.mk A130
     clear A130
     replace H := Option.bind_eq_some_iff.mp H
     obtain ⟨t207, A140, H⟩ := H
     replace H : ((directory_Compare.f kj6 a1 a0 a3).bind fun t208 => ((masterdisclaw21_sign.f t208).bind fun t209 => ((masterdisclaw21_sign.f t205).bind fun t210 => (if t209 = (wrap64 (-t210)) then ((directory_Compare.f kj6 a0 a0 a3).bind fun t211 => (masterdisclaw21_DirectoryOrder.j1 kj6 t205 t206 t207 (t211 != 0))) else (masterdisclaw21_DirectoryOrder.j1 kj6 t205 t206 t207 true))))) = some r := H
     have A14 := Aside0.mk A140
     clear A140
     have HC15 := Aside0.mk H
     clear H
     go_upto_region 6 with (first | ((with_reducible refine gate_callee (f := 5) rfl ?_); refine goesL_ (some 30) rfl rfl Try.func5 (by kernel_rfl) rfl #[.string a0, .string a1, .bool a3] rfl (by (try simp only [List.map_toArray, List.map_cons, List.map_nil]); first | done | rfl | (simp only [List.length_drop, List.length_take]; rfl)) ?_; (with_reducible refine (directory_Compare.calls kj6 a0 a1 a3 t205 _ A12.out).mono ?_); rintro e w16 ⟨rfl, hb⟩; refine ⟨_, rfl, ?_⟩; have n0_ := Aside0.mk (below_step (by repeat (first | (with_reducible first | exact HB.out | apply below_alloc | apply pw_below_drewN | apply below_drew1) | exact HB.out)) hb); clear HB; have HB := n0_; clear n0_; (try clear hb); (try clear hb2); (try clear hk); (try clear hi)) | ((with_reducible refine gate_callee (f := 5) rfl ?_); refine goesL_ (some 34) rfl rfl Try.func5 (by kernel_rfl) rfl #[.string a1, .string a2, .bool a3] rfl (by (try simp only [List.map_toArray, List.map_cons, List.map_nil]); first | done | rfl | (simp only [List.length_drop, List.length_take]; rfl)) ?_; (with_reducible refine (directory_Compare.calls kj6 a1 a2 a3 t206 _ A13.out).mono ?_); rintro e w17 ⟨rfl, hb⟩; refine ⟨_, rfl, ?_⟩; have n0_ := Aside0.mk (below_step (by repeat (first | (with_reducible first | exact HB.out | apply below_alloc | apply pw_below_drewN | apply below_drew1) | exact HB.out)) hb); clear HB; have HB := n0_; clear n0_; (try clear hb); (try clear hb2); (try clear hk); (try clear hi)) | ((with_reducible refine gate_callee (f := 5) rfl ?_); refine goesL_ (some 38) rfl rfl Try.func5 (by kernel_rfl) rfl #[.string a0, .string a2, .bool a3] rfl (by (try simp only [List.map_toArray, List.map_cons, List.map_nil]); first | done | rfl | (simp only [List.length_drop, List.length_take]; rfl)) ?_; (with_reducible refine (directory_Compare.calls kj6 a0 a2 a3 t207 _ A14.out).mono ?_); rintro e w18 ⟨rfl, hb⟩; refine ⟨_, rfl, ?_⟩; have n0_ := Aside0.mk (below_step (by repeat (first | (with_reducible first | exact HB.out | apply below_alloc | apply pw_below_drewN | apply below_drew1) | exact HB.out)) hb); clear HB; have HB := n0_; clear n0_; (try clear hb); (try clear hb2); (try clear hk); (try clear hi)))
     (try simp only [Act.put, List.setIfInBounds_toArray, List.set_cons_zero, List.set_cons_succ])
     go_cut [54] (fun v54 wc => ∃ (kq : Nat) (x54_14 : Bool), v54 = .bool x54_14 ∧ Aside0 (masterdisclaw21_DirectoryOrder.j1 kq t205 t206 t207 x54_14 = some r) ∧ Aside0 (kq ≤ kj6) ∧ Aside0 (Below w.heap.size w wc))
     case first =>
      have H := HC15.out
      clear HC15
      replace H := Option.bind_eq_some_iff.mp H
      obtain ⟨t208, A190, H⟩ := H
      replace H : ((masterdisclaw21_sign.f t208).bind fun t209 => ((masterdisclaw21_sign.f t205).bind fun t210 => (if t209 = (wrap64 (-t210)) then ((directory_Compare.f kj6 a0 a0 a3).bind fun t211 => (masterdisclaw21_DirectoryOrder.j1 kj6 t205 t206 t207 (t211 != 0))) else (masterdisclaw21_DirectoryOrder.j1 kj6 t205 t206 t207 true)))) = some r := H
      have A19 := Aside0.mk A190
      clear A190
      replace H := Option.bind_eq_some_iff.mp H
      obtain ⟨t209, A200, H⟩ := H
      replace H : ((masterdisclaw21_sign.f t205).bind fun t210 => (if t209 = (wrap64 (-t210)) then ((directory_Compare.f kj6 a0 a0 a3).bind fun t211 => (masterdisclaw21_DirectoryOrder.j1 kj6 t205 t206 t207 (t211 != 0))) else (masterdisclaw21_DirectoryOrder.j1 kj6 t205 t206 t207 true))) = some r := H
      have A20 := Aside0.mk A200
      clear A200
      replace H := Option.bind_eq_some_iff.mp H
      obtain ⟨t210, A210, H⟩ := H
      replace H : (if t209 = (wrap64 (-t210)) then ((directory_Compare.f kj6 a0 a0 a3).bind fun t211 => (masterdisclaw21_DirectoryOrder.j1 kj6 t205 t206 t207 (t211 != 0))) else (masterdisclaw21_DirectoryOrder.j1 kj6 t205 t206 t207 true)) = some r := H
      have A21 := Aside0.mk A210
      clear A210
      by_cases c22 : t209 = (wrap64 (-t210))
      ·rw [if_pos c22] at H
       have c22b0 : (t209 == (wrap64 (-t210))) = true := beq_iff_eq.mpr c22
       have c22b1 : (t209 != (wrap64 (-t210))) = false := bne_eq_false_iff_eq.mpr c22
       clear c22
       (first | rw [c22b0] | (simp only [i64_w, i32_w]; rw [c22b0]) | skip)
       replace H := Option.bind_eq_some_iff.mp H
       obtain ⟨t211, A230, H⟩ := H
       replace H : (masterdisclaw21_DirectoryOrder.j1 kj6 t205 t206 t207 (t211 != 0)) = some r := H
       have A23 := Aside0.mk A230
       clear A230
       have H' := Aside0.mk H
       clear H
       go_wp2_with (first | ((with_reducible refine gate_callee (f := 5) rfl ?_); refine goesL_ (some 42) rfl rfl Try.func5 (by kernel_rfl) rfl #[.string a1, .string a0, .bool a3] rfl (by (try simp only [List.map_toArray, List.map_cons, List.map_nil]); first | done | rfl | (simp only [List.length_drop, List.length_take]; rfl)) ?_; (with_reducible refine (directory_Compare.calls kj6 a1 a0 a3 t208 _ A19.out).mono ?_); rintro e w24 ⟨rfl, hb⟩; refine ⟨_, rfl, ?_⟩; have n0_ := Aside0.mk (below_step (by repeat (first | (with_reducible first | exact HB.out | apply below_alloc | apply pw_below_drewN | apply below_drew1) | exact HB.out)) hb); clear HB; have HB := n0_; clear n0_; (try clear hb); (try clear hb2); (try clear hk); (try clear hi)) | ((with_reducible refine gate_callee (f := 6) rfl ?_); refine goesL_ (some 43) rfl rfl Try.func6 (by kernel_rfl) rfl #[.int .i64 t208] rfl (by (try simp only [List.map_toArray, List.map_cons, List.map_nil]); first | done | rfl | (simp only [List.length_drop, List.length_take]; rfl)) ?_; (with_reducible refine (masterdisclaw21_sign.calls t208 t209 _ A20.out).mono ?_); rintro e w' ⟨rfl, ⟨nd, rfl⟩⟩; refine ⟨_, rfl, ?_⟩) | ((with_reducible refine gate_callee (f := 6) rfl ?_); refine goesL_ (some 45) rfl rfl Try.func6 (by kernel_rfl) rfl #[.int .i64 t205] rfl (by (try simp only [List.map_toArray, List.map_cons, List.map_nil]); first | done | rfl | (simp only [List.length_drop, List.length_take]; rfl)) ?_; (with_reducible refine (masterdisclaw21_sign.calls t205 t210 _ A21.out).mono ?_); rintro e w' ⟨rfl, ⟨nd, rfl⟩⟩; refine ⟨_, rfl, ?_⟩) | (go_at_call 5; (with_reducible refine (directory_Compare.calls kj6 a0 a0 a3 t211 _ A23.out).mono ?_); rintro e w25 ⟨rfl, hb⟩; have n0_ := Aside0.mk (below_step (by repeat (first | (with_reducible first | exact HB.out | apply below_alloc | apply pw_below_drewN | apply below_drew1) | exact HB.out)) hb); clear HB; have HB := n0_; clear n0_; (try clear hb); (try clear hb2); (try clear hk); (try clear hi)))
       go_meet
       case rel => exact ⟨_, ((t211 != 0)), (by first | rfl | (simp; done) | (simp [*]; done)), H', ⟨by have := HJ6.out; first | omega | exact Nat.le_refl _⟩, ⟨by repeat (first | (with_reducible first | exact HB.out | apply below_alloc | apply pw_below_drewN | apply below_drew1) | exact HB.out)⟩⟩
      ·rw [if_neg c22] at H
       have c22b0 : (t209 == (wrap64 (-t210))) = false := beq_eq_false_iff_ne.mpr c22
       have c22b1 : (t209 != (wrap64 (-t210))) = true := bne_iff_ne.mpr c22
       (first | rw [c22b0] | (simp only [i64_w, i32_w]; rw [c22b0]) | skip)
       have H' := Aside0.mk H
       clear H
       go_wp2_with (first | ((with_reducible refine gate_callee (f := 5) rfl ?_); refine goesL_ (some 42) rfl rfl Try.func5 (by kernel_rfl) rfl #[.string a1, .string a0, .bool a3] rfl (by (try simp only [List.map_toArray, List.map_cons, List.map_nil]); first | done | rfl | (simp only [List.length_drop, List.length_take]; rfl)) ?_; (with_reducible refine (directory_Compare.calls kj6 a1 a0 a3 t208 _ A19.out).mono ?_); rintro e w26 ⟨rfl, hb⟩; refine ⟨_, rfl, ?_⟩; have n0_ := Aside0.mk (below_step (by repeat (first | (with_reducible first | exact HB.out | apply below_alloc | apply pw_below_drewN | apply below_drew1) | exact HB.out)) hb); clear HB; have HB := n0_; clear n0_; (try clear hb); (try clear hb2); (try clear hk); (try clear hi)) | ((with_reducible refine gate_callee (f := 6) rfl ?_); refine goesL_ (some 43) rfl rfl Try.func6 (by kernel_rfl) rfl #[.int .i64 t208] rfl (by (try simp only [List.map_toArray, List.map_cons, List.map_nil]); first | done | rfl | (simp only [List.length_drop, List.length_take]; rfl)) ?_; (with_reducible refine (masterdisclaw21_sign.calls t208 t209 _ A20.out).mono ?_); rintro e w' ⟨rfl, ⟨nd, rfl⟩⟩; refine ⟨_, rfl, ?_⟩) | ((with_reducible refine gate_callee (f := 6) rfl ?_); refine goesL_ (some 45) rfl rfl Try.func6 (by kernel_rfl) rfl #[.int .i64 t205] rfl (by (try simp only [List.map_toArray, List.map_cons, List.map_nil]); first | done | rfl | (simp only [List.length_drop, List.length_take]; rfl)) ?_; (with_reducible refine (masterdisclaw21_sign.calls t205 t210 _ A21.out).mono ?_); rintro e w' ⟨rfl, ⟨nd, rfl⟩⟩; refine ⟨_, rfl, ?_⟩))
       go_meet
       case rel => exact ⟨_, (true), (by first | rfl | (simp; done) | (simp [*]; done)), H', ⟨by have := HJ6.out; first | omega | exact Nat.le_refl _⟩, ⟨by repeat (first | (with_reducible first | exact HB.out | apply below_alloc | apply pw_below_drewN | apply below_drew1) | exact HB.out)⟩⟩
     case rest =>
      clear HC15
      try clear c1
      try clear c2
      try clear p2
      try clear c3
      try clear c4
      try clear c5
      try clear c6
      try clear p6
      try clear c9
      try clear c9b0
      try clear c9b1
      try clear c10
      try clear c10b0
      try clear c10b1
      try clear c11
      try clear c22
      try clear c22b0
      try clear c22b1
      try clear p2
      obtain ⟨kq, x54_14, rfl, HA, HJ14, HB⟩ := hcut
      cases kq with
      | zero => exact absurd HA.out (by simp [masterdisclaw21_DirectoryOrder.j1])
      | succ kj14 =>
       have H := HA.out
       clear HA
       simp only [masterdisclaw21_DirectoryOrder.j1] at H
       by_cases c27 : x54_14 = true
       ·subst c27
        have H1 : (some false) = some r := by rw [if_pos rfl] at H; exact H
        clear H
        have H := H1
        clear H1
        obtain rfl := Option.some.inj H
        go_wp2
        go_ret
        exact ⟨by first | rfl | (simp [errW_none, errW_some] <;> rfl) | (simp [*, errW_none, errW_some] <;> rfl), by repeat (first | (with_reducible first | exact HB.out | apply below_alloc | apply pw_below_drewN | apply below_drew1) | exact HB.out)⟩
       ·replace c27 := Bool.eq_false_iff.mpr c27
        subst c27
        have H1 : (if t205 ≤ 0 then (if t206 ≤ 0 then (if t207 > 0 then (some false) else (if t205 ≥ 0 then (if t206 ≥ 0 then (if t207 < 0 then (some false) else (if t205 = 0 then ((masterdisclaw21_sign.f t206).bind fun t212 => ((masterdisclaw21_sign.f t207).bind fun t213 => (some (!(t212 != t213))))) else (some (!false)))) else (if t205 = 0 then ((masterdisclaw21_sign.f t206).bind fun t214 => ((masterdisclaw21_sign.f t207).bind fun t215 => (some (!(t214 != t215))))) else (some (!false)))) else (if t205 = 0 then ((masterdisclaw21_sign.f t206).bind fun t216 => ((masterdisclaw21_sign.f t207).bind fun t217 => (some (!(t216 != t217))))) else (some (!false))))) else (if t205 ≥ 0 then (if t206 ≥ 0 then (if t207 < 0 then (some false) else (if t205 = 0 then ((masterdisclaw21_sign.f t206).bind fun t218 => ((masterdisclaw21_sign.f t207).bind fun t219 => (some (!(t218 != t219))))) else (some (!false)))) else (if t205 = 0 then ((masterdisclaw21_sign.f t206).bind fun t220 => ((masterdisclaw21_sign.f t207).bind fun t221 => (some (!(t220 != t221))))) else (some (!false)))) else (if t205 = 0 then ((masterdisclaw21_sign.f t206).bind fun t222 => ((masterdisclaw21_sign.f t207).bind fun t223 => (some (!(t222 != t223))))) else (some (!false))))) else (if t205 ≥ 0 then (if t206 ≥ 0 then (if t207 < 0 then (some false) else (if t205 = 0 then ((masterdisclaw21_sign.f t206).bind fun t224 => ((masterdisclaw21_sign.f t207).bind fun t225 => (some (!(t224 != t225))))) else (some (!false)))) else (if t205 = 0 then ((masterdisclaw21_sign.f t206).bind fun t226 => ((masterdisclaw21_sign.f t207).bind fun t227 => (some (!(t226 != t227))))) else (some (!false)))) else (if t205 = 0 then ((masterdisclaw21_sign.f t206).bind fun t228 => ((masterdisclaw21_sign.f t207).bind fun t229 => (some (!(t228 != t229))))) else (some (!false))))) = some r := by rw [if_neg (show ¬ (false = true) by decide)] at H; exact H
        clear H
        have H := H1
        clear H1
        by_cases c28 : t205 ≤ 0
        ·rw [if_pos c28] at H
         have c28b0 : decide (t205 ≤ 0) = true := decide_eq_true c28
         clear c28
         by_cases c29 : t206 ≤ 0
         ·rw [if_pos c29] at H
          have c29b0 : decide (t206 ≤ 0) = true := decide_eq_true c29
          clear c29
          by_cases c30 : t207 > 0
          ·rw [if_pos c30] at H
           have c30b0 : decide (0 < t207) = true := decide_eq_true c30
           clear c30
           obtain rfl := Option.some.inj H
           go_wp2
           go_ret
           exact ⟨by first | rfl | (simp [errW_none, errW_some] <;> rfl) | (simp [*, errW_none, errW_some] <;> rfl), by repeat (first | (with_reducible first | exact HB.out | apply below_alloc | apply pw_below_drewN | apply below_drew1) | exact HB.out)⟩
          ·rw [if_neg c30] at H
           have c30b0 : decide (0 < t207) = false := decide_eq_false c30
           clear c30
           by_cases c31 : t205 ≥ 0
           ·rw [if_pos c31] at H
            have c31b0 : decide (0 ≤ t205) = true := decide_eq_true c31
            clear c31
            by_cases c32 : t206 ≥ 0
            ·rw [if_pos c32] at H
             have c32b0 : decide (0 ≤ t206) = true := decide_eq_true c32
             clear c32
             by_cases c33 : t207 < 0
             ·rw [if_pos c33] at H
              have c33b0 : decide (t207 < 0) = true := decide_eq_true c33
              clear c33
              obtain rfl := Option.some.inj H
              go_wp2
              go_ret
              exact ⟨by first | rfl | (simp [errW_none, errW_some] <;> rfl) | (simp [*, errW_none, errW_some] <;> rfl), by repeat (first | (with_reducible first | exact HB.out | apply below_alloc | apply pw_below_drewN | apply below_drew1) | exact HB.out)⟩
             ·rw [if_neg c33] at H
              have c33b0 : decide (t207 < 0) = false := decide_eq_false c33
              clear c33
              by_cases c34 : t205 = 0
              ·rw [if_pos c34] at H
               have c34b0 : (t205 == 0) = true := beq_iff_eq.mpr c34
               have c34b1 : (t205 != 0) = false := bne_eq_false_iff_eq.mpr c34
               clear c34
               replace H := Option.bind_eq_some_iff.mp H
               obtain ⟨t212, A350, H⟩ := H
               replace H : ((masterdisclaw21_sign.f t207).bind fun t213 => (some (!(t212 != t213)))) = some r := H
               have A35 := Aside0.mk A350
               clear A350
               replace H := Option.bind_eq_some_iff.mp H
               obtain ⟨t213, A360, H⟩ := H
               replace H : (some (!(t212 != t213))) = some r := H
               have A36 := Aside0.mk A360
               clear A360
               obtain rfl := Option.some.inj H
               go_wp2_with (first | (go_at_call 6; (with_reducible refine (masterdisclaw21_sign.calls t206 t212 _ A35.out).mono ?_); rintro e w' ⟨rfl, ⟨nd, rfl⟩⟩) | (go_at_call 6; (with_reducible refine (masterdisclaw21_sign.calls t207 t213 _ A36.out).mono ?_); rintro e w' ⟨rfl, ⟨nd, rfl⟩⟩))
               go_ret
               exact ⟨by first | rfl | (simp [errW_none, errW_some] <;> rfl) | (simp [*, errW_none, errW_some] <;> rfl), by repeat (first | (with_reducible first | exact HB.out | apply below_alloc | apply pw_below_drewN | apply below_drew1) | exact HB.out)⟩
              ·rw [if_neg c34] at H
               have c34b0 : (t205 == 0) = false := beq_eq_false_iff_ne.mpr c34
               have c34b1 : (t205 != 0) = true := bne_iff_ne.mpr c34
               obtain rfl := Option.some.inj H
               go_wp2
               go_ret
               exact ⟨by first | rfl | (simp [errW_none, errW_some] <;> rfl) | (simp [*, errW_none, errW_some] <;> rfl), by repeat (first | (with_reducible first | exact HB.out | apply below_alloc | apply pw_below_drewN | apply below_drew1) | exact HB.out)⟩
            ·rw [if_neg c32] at H
             have c32b0 : decide (0 ≤ t206) = false := decide_eq_false c32
             clear c32
             by_cases c37 : t205 = 0
             ·rw [if_pos c37] at H
              have c37b0 : (t205 == 0) = true := beq_iff_eq.mpr c37
              have c37b1 : (t205 != 0) = false := bne_eq_false_iff_eq.mpr c37
              clear c37
              replace H := Option.bind_eq_some_iff.mp H
              obtain ⟨t214, A380, H⟩ := H
              replace H : ((masterdisclaw21_sign.f t207).bind fun t215 => (some (!(t214 != t215)))) = some r := H
              have A38 := Aside0.mk A380
              clear A380
              replace H := Option.bind_eq_some_iff.mp H
              obtain ⟨t215, A390, H⟩ := H
              replace H : (some (!(t214 != t215))) = some r := H
              have A39 := Aside0.mk A390
              clear A390
              obtain rfl := Option.some.inj H
              go_wp2_with (first | (go_at_call 6; (with_reducible refine (masterdisclaw21_sign.calls t206 t214 _ A38.out).mono ?_); rintro e w' ⟨rfl, ⟨nd, rfl⟩⟩) | (go_at_call 6; (with_reducible refine (masterdisclaw21_sign.calls t207 t215 _ A39.out).mono ?_); rintro e w' ⟨rfl, ⟨nd, rfl⟩⟩))
              go_ret
              exact ⟨by first | rfl | (simp [errW_none, errW_some] <;> rfl) | (simp [*, errW_none, errW_some] <;> rfl), by repeat (first | (with_reducible first | exact HB.out | apply below_alloc | apply pw_below_drewN | apply below_drew1) | exact HB.out)⟩
             ·rw [if_neg c37] at H
              have c37b0 : (t205 == 0) = false := beq_eq_false_iff_ne.mpr c37
              have c37b1 : (t205 != 0) = true := bne_iff_ne.mpr c37
              obtain rfl := Option.some.inj H
              go_wp2
              go_ret
              exact ⟨by first | rfl | (simp [errW_none, errW_some] <;> rfl) | (simp [*, errW_none, errW_some] <;> rfl), by repeat (first | (with_reducible first | exact HB.out | apply below_alloc | apply pw_below_drewN | apply below_drew1) | exact HB.out)⟩
           ·rw [if_neg c31] at H
            have c31b0 : decide (0 ≤ t205) = false := decide_eq_false c31
            clear c31
            by_cases c40 : t205 = 0
            ·rw [if_pos c40] at H
             have c40b0 : (t205 == 0) = true := beq_iff_eq.mpr c40
             have c40b1 : (t205 != 0) = false := bne_eq_false_iff_eq.mpr c40
             clear c40
             replace H := Option.bind_eq_some_iff.mp H
             obtain ⟨t216, A410, H⟩ := H
             replace H : ((masterdisclaw21_sign.f t207).bind fun t217 => (some (!(t216 != t217)))) = some r := H
             have A41 := Aside0.mk A410
             clear A410
             replace H := Option.bind_eq_some_iff.mp H
             obtain ⟨t217, A420, H⟩ := H
             replace H : (some (!(t216 != t217))) = some r := H
             have A42 := Aside0.mk A420
             clear A420
             obtain rfl := Option.some.inj H
             go_wp2_with (first | (go_at_call 6; (with_reducible refine (masterdisclaw21_sign.calls t206 t216 _ A41.out).mono ?_); rintro e w' ⟨rfl, ⟨nd, rfl⟩⟩) | (go_at_call 6; (with_reducible refine (masterdisclaw21_sign.calls t207 t217 _ A42.out).mono ?_); rintro e w' ⟨rfl, ⟨nd, rfl⟩⟩))
             go_ret
             exact ⟨by first | rfl | (simp [errW_none, errW_some] <;> rfl) | (simp [*, errW_none, errW_some] <;> rfl), by repeat (first | (with_reducible first | exact HB.out | apply below_alloc | apply pw_below_drewN | apply below_drew1) | exact HB.out)⟩
            ·rw [if_neg c40] at H
             have c40b0 : (t205 == 0) = false := beq_eq_false_iff_ne.mpr c40
             have c40b1 : (t205 != 0) = true := bne_iff_ne.mpr c40
             obtain rfl := Option.some.inj H
             go_wp2
             go_ret
             exact ⟨by first | rfl | (simp [errW_none, errW_some] <;> rfl) | (simp [*, errW_none, errW_some] <;> rfl), by repeat (first | (with_reducible first | exact HB.out | apply below_alloc | apply pw_below_drewN | apply below_drew1) | exact HB.out)⟩
         ·rw [if_neg c29] at H
          have c29b0 : decide (t206 ≤ 0) = false := decide_eq_false c29
          clear c29
          by_cases c43 : t205 ≥ 0
          ·rw [if_pos c43] at H
           have c43b0 : decide (0 ≤ t205) = true := decide_eq_true c43
           clear c43
           by_cases c44 : t206 ≥ 0
           ·rw [if_pos c44] at H
            have c44b0 : decide (0 ≤ t206) = true := decide_eq_true c44
            clear c44
            by_cases c45 : t207 < 0
            ·rw [if_pos c45] at H
             have c45b0 : decide (t207 < 0) = true := decide_eq_true c45
             clear c45
             obtain rfl := Option.some.inj H
             go_wp2
             go_ret
             exact ⟨by first | rfl | (simp [errW_none, errW_some] <;> rfl) | (simp [*, errW_none, errW_some] <;> rfl), by repeat (first | (with_reducible first | exact HB.out | apply below_alloc | apply pw_below_drewN | apply below_drew1) | exact HB.out)⟩
            ·rw [if_neg c45] at H
             have c45b0 : decide (t207 < 0) = false := decide_eq_false c45
             clear c45
             by_cases c46 : t205 = 0
             ·rw [if_pos c46] at H
              have c46b0 : (t205 == 0) = true := beq_iff_eq.mpr c46
              have c46b1 : (t205 != 0) = false := bne_eq_false_iff_eq.mpr c46
              clear c46
              replace H := Option.bind_eq_some_iff.mp H
              obtain ⟨t218, A470, H⟩ := H
              replace H : ((masterdisclaw21_sign.f t207).bind fun t219 => (some (!(t218 != t219)))) = some r := H
              have A47 := Aside0.mk A470
              clear A470
              replace H := Option.bind_eq_some_iff.mp H
              obtain ⟨t219, A480, H⟩ := H
              replace H : (some (!(t218 != t219))) = some r := H
              have A48 := Aside0.mk A480
              clear A480
              obtain rfl := Option.some.inj H
              go_wp2_with (first | (go_at_call 6; (with_reducible refine (masterdisclaw21_sign.calls t206 t218 _ A47.out).mono ?_); rintro e w' ⟨rfl, ⟨nd, rfl⟩⟩) | (go_at_call 6; (with_reducible refine (masterdisclaw21_sign.calls t207 t219 _ A48.out).mono ?_); rintro e w' ⟨rfl, ⟨nd, rfl⟩⟩))
              go_ret
              exact ⟨by first | rfl | (simp [errW_none, errW_some] <;> rfl) | (simp [*, errW_none, errW_some] <;> rfl), by repeat (first | (with_reducible first | exact HB.out | apply below_alloc | apply pw_below_drewN | apply below_drew1) | exact HB.out)⟩
             ·rw [if_neg c46] at H
              have c46b0 : (t205 == 0) = false := beq_eq_false_iff_ne.mpr c46
              have c46b1 : (t205 != 0) = true := bne_iff_ne.mpr c46
              obtain rfl := Option.some.inj H
              go_wp2
              go_ret
              exact ⟨by first | rfl | (simp [errW_none, errW_some] <;> rfl) | (simp [*, errW_none, errW_some] <;> rfl), by repeat (first | (with_reducible first | exact HB.out | apply below_alloc | apply pw_below_drewN | apply below_drew1) | exact HB.out)⟩
           ·rw [if_neg c44] at H
            have c44b0 : decide (0 ≤ t206) = false := decide_eq_false c44
            clear c44
            by_cases c49 : t205 = 0
            ·rw [if_pos c49] at H
             have c49b0 : (t205 == 0) = true := beq_iff_eq.mpr c49
             have c49b1 : (t205 != 0) = false := bne_eq_false_iff_eq.mpr c49
             clear c49
             replace H := Option.bind_eq_some_iff.mp H
             obtain ⟨t220, A500, H⟩ := H
             replace H : ((masterdisclaw21_sign.f t207).bind fun t221 => (some (!(t220 != t221)))) = some r := H
             have A50 := Aside0.mk A500
             clear A500
             replace H := Option.bind_eq_some_iff.mp H
             obtain ⟨t221, A510, H⟩ := H
             replace H : (some (!(t220 != t221))) = some r := H
             have A51 := Aside0.mk A510
             clear A510
             obtain rfl := Option.some.inj H
             go_wp2_with (first | (go_at_call 6; (with_reducible refine (masterdisclaw21_sign.calls t206 t220 _ A50.out).mono ?_); rintro e w' ⟨rfl, ⟨nd, rfl⟩⟩) | (go_at_call 6; (with_reducible refine (masterdisclaw21_sign.calls t207 t221 _ A51.out).mono ?_); rintro e w' ⟨rfl, ⟨nd, rfl⟩⟩))
             go_ret
             exact ⟨by first | rfl | (simp [errW_none, errW_some] <;> rfl) | (simp [*, errW_none, errW_some] <;> rfl), by repeat (first | (with_reducible first | exact HB.out | apply below_alloc | apply pw_below_drewN | apply below_drew1) | exact HB.out)⟩
            ·rw [if_neg c49] at H
             have c49b0 : (t205 == 0) = false := beq_eq_false_iff_ne.mpr c49
             have c49b1 : (t205 != 0) = true := bne_iff_ne.mpr c49
             obtain rfl := Option.some.inj H
             go_wp2
             go_ret
             exact ⟨by first | rfl | (simp [errW_none, errW_some] <;> rfl) | (simp [*, errW_none, errW_some] <;> rfl), by repeat (first | (with_reducible first | exact HB.out | apply below_alloc | apply pw_below_drewN | apply below_drew1) | exact HB.out)⟩
          ·rw [if_neg c43] at H
           have c43b0 : decide (0 ≤ t205) = false := decide_eq_false c43
           clear c43
           by_cases c52 : t205 = 0
           ·rw [if_pos c52] at H
            have c52b0 : (t205 == 0) = true := beq_iff_eq.mpr c52
            have c52b1 : (t205 != 0) = false := bne_eq_false_iff_eq.mpr c52
            clear c52
            replace H := Option.bind_eq_some_iff.mp H
            obtain ⟨t222, A530, H⟩ := H
            replace H : ((masterdisclaw21_sign.f t207).bind fun t223 => (some (!(t222 != t223)))) = some r := H
            have A53 := Aside0.mk A530
            clear A530
            replace H := Option.bind_eq_some_iff.mp H
            obtain ⟨t223, A540, H⟩ := H
            replace H : (some (!(t222 != t223))) = some r := H
            have A54 := Aside0.mk A540
            clear A540
            obtain rfl := Option.some.inj H
            go_wp2_with (first | (go_at_call 6; (with_reducible refine (masterdisclaw21_sign.calls t206 t222 _ A53.out).mono ?_); rintro e w' ⟨rfl, ⟨nd, rfl⟩⟩) | (go_at_call 6; (with_reducible refine (masterdisclaw21_sign.calls t207 t223 _ A54.out).mono ?_); rintro e w' ⟨rfl, ⟨nd, rfl⟩⟩))
            go_ret
            exact ⟨by first | rfl | (simp [errW_none, errW_some] <;> rfl) | (simp [*, errW_none, errW_some] <;> rfl), by repeat (first | (with_reducible first | exact HB.out | apply below_alloc | apply pw_below_drewN | apply below_drew1) | exact HB.out)⟩
           ·rw [if_neg c52] at H
            have c52b0 : (t205 == 0) = false := beq_eq_false_iff_ne.mpr c52
            have c52b1 : (t205 != 0) = true := bne_iff_ne.mpr c52
            obtain rfl := Option.some.inj H
            go_wp2
            go_ret
            exact ⟨by first | rfl | (simp [errW_none, errW_some] <;> rfl) | (simp [*, errW_none, errW_some] <;> rfl), by repeat (first | (with_reducible first | exact HB.out | apply below_alloc | apply pw_below_drewN | apply below_drew1) | exact HB.out)⟩
        ·rw [if_neg c28] at H
         have c28b0 : decide (t205 ≤ 0) = false := decide_eq_false c28
         clear c28
         by_cases c55 : t205 ≥ 0
         ·rw [if_pos c55] at H
          have c55b0 : decide (0 ≤ t205) = true := decide_eq_true c55
          clear c55
          by_cases c56 : t206 ≥ 0
          ·rw [if_pos c56] at H
           have c56b0 : decide (0 ≤ t206) = true := decide_eq_true c56
           clear c56
           by_cases c57 : t207 < 0
           ·rw [if_pos c57] at H
            have c57b0 : decide (t207 < 0) = true := decide_eq_true c57
            clear c57
            obtain rfl := Option.some.inj H
            go_wp2
            go_ret
            exact ⟨by first | rfl | (simp [errW_none, errW_some] <;> rfl) | (simp [*, errW_none, errW_some] <;> rfl), by repeat (first | (with_reducible first | exact HB.out | apply below_alloc | apply pw_below_drewN | apply below_drew1) | exact HB.out)⟩
           ·rw [if_neg c57] at H
            have c57b0 : decide (t207 < 0) = false := decide_eq_false c57
            clear c57
            by_cases c58 : t205 = 0
            ·rw [if_pos c58] at H
             have c58b0 : (t205 == 0) = true := beq_iff_eq.mpr c58
             have c58b1 : (t205 != 0) = false := bne_eq_false_iff_eq.mpr c58
             clear c58
             replace H := Option.bind_eq_some_iff.mp H
             obtain ⟨t224, A590, H⟩ := H
             replace H : ((masterdisclaw21_sign.f t207).bind fun t225 => (some (!(t224 != t225)))) = some r := H
             have A59 := Aside0.mk A590
             clear A590
             replace H := Option.bind_eq_some_iff.mp H
             obtain ⟨t225, A600, H⟩ := H
             replace H : (some (!(t224 != t225))) = some r := H
             have A60 := Aside0.mk A600
             clear A600
             obtain rfl := Option.some.inj H
             go_wp2_with (first | (go_at_call 6; (with_reducible refine (masterdisclaw21_sign.calls t206 t224 _ A59.out).mono ?_); rintro e w' ⟨rfl, ⟨nd, rfl⟩⟩) | (go_at_call 6; (with_reducible refine (masterdisclaw21_sign.calls t207 t225 _ A60.out).mono ?_); rintro e w' ⟨rfl, ⟨nd, rfl⟩⟩))
             go_ret
             exact ⟨by first | rfl | (simp [errW_none, errW_some] <;> rfl) | (simp [*, errW_none, errW_some] <;> rfl), by repeat (first | (with_reducible first | exact HB.out | apply below_alloc | apply pw_below_drewN | apply below_drew1) | exact HB.out)⟩
            ·rw [if_neg c58] at H
             have c58b0 : (t205 == 0) = false := beq_eq_false_iff_ne.mpr c58
             have c58b1 : (t205 != 0) = true := bne_iff_ne.mpr c58
             obtain rfl := Option.some.inj H
             go_wp2
             go_ret
             exact ⟨by first | rfl | (simp [errW_none, errW_some] <;> rfl) | (simp [*, errW_none, errW_some] <;> rfl), by repeat (first | (with_reducible first | exact HB.out | apply below_alloc | apply pw_below_drewN | apply below_drew1) | exact HB.out)⟩
          ·rw [if_neg c56] at H
           have c56b0 : decide (0 ≤ t206) = false := decide_eq_false c56
           clear c56
           by_cases c61 : t205 = 0
           ·rw [if_pos c61] at H
            have c61b0 : (t205 == 0) = true := beq_iff_eq.mpr c61
            have c61b1 : (t205 != 0) = false := bne_eq_false_iff_eq.mpr c61
            clear c61
            replace H := Option.bind_eq_some_iff.mp H
            obtain ⟨t226, A620, H⟩ := H
            replace H : ((masterdisclaw21_sign.f t207).bind fun t227 => (some (!(t226 != t227)))) = some r := H
            have A62 := Aside0.mk A620
            clear A620
            replace H := Option.bind_eq_some_iff.mp H
            obtain ⟨t227, A630, H⟩ := H
            replace H : (some (!(t226 != t227))) = some r := H
            have A63 := Aside0.mk A630
            clear A630
            obtain rfl := Option.some.inj H
            go_wp2_with (first | (go_at_call 6; (with_reducible refine (masterdisclaw21_sign.calls t206 t226 _ A62.out).mono ?_); rintro e w' ⟨rfl, ⟨nd, rfl⟩⟩) | (go_at_call 6; (with_reducible refine (masterdisclaw21_sign.calls t207 t227 _ A63.out).mono ?_); rintro e w' ⟨rfl, ⟨nd, rfl⟩⟩))
            go_ret
            exact ⟨by first | rfl | (simp [errW_none, errW_some] <;> rfl) | (simp [*, errW_none, errW_some] <;> rfl), by repeat (first | (with_reducible first | exact HB.out | apply below_alloc | apply pw_below_drewN | apply below_drew1) | exact HB.out)⟩
           ·rw [if_neg c61] at H
            have c61b0 : (t205 == 0) = false := beq_eq_false_iff_ne.mpr c61
            have c61b1 : (t205 != 0) = true := bne_iff_ne.mpr c61
            obtain rfl := Option.some.inj H
            go_wp2
            go_ret
            exact ⟨by first | rfl | (simp [errW_none, errW_some] <;> rfl) | (simp [*, errW_none, errW_some] <;> rfl), by repeat (first | (with_reducible first | exact HB.out | apply below_alloc | apply pw_below_drewN | apply below_drew1) | exact HB.out)⟩
         ·rw [if_neg c55] at H
          have c55b0 : decide (0 ≤ t205) = false := decide_eq_false c55
          clear c55
          by_cases c64 : t205 = 0
          ·rw [if_pos c64] at H
           have c64b0 : (t205 == 0) = true := beq_iff_eq.mpr c64
           have c64b1 : (t205 != 0) = false := bne_eq_false_iff_eq.mpr c64
           clear c64
           replace H := Option.bind_eq_some_iff.mp H
           obtain ⟨t228, A650, H⟩ := H
           replace H : ((masterdisclaw21_sign.f t207).bind fun t229 => (some (!(t228 != t229)))) = some r := H
           have A65 := Aside0.mk A650
           clear A650
           replace H := Option.bind_eq_some_iff.mp H
           obtain ⟨t229, A660, H⟩ := H
           replace H : (some (!(t228 != t229))) = some r := H
           have A66 := Aside0.mk A660
           clear A660
           obtain rfl := Option.some.inj H
           go_wp2_with (first | (go_at_call 6; (with_reducible refine (masterdisclaw21_sign.calls t206 t228 _ A65.out).mono ?_); rintro e w' ⟨rfl, ⟨nd, rfl⟩⟩) | (go_at_call 6; (with_reducible refine (masterdisclaw21_sign.calls t207 t229 _ A66.out).mono ?_); rintro e w' ⟨rfl, ⟨nd, rfl⟩⟩))
           go_ret
           exact ⟨by first | rfl | (simp [errW_none, errW_some] <;> rfl) | (simp [*, errW_none, errW_some] <;> rfl), by repeat (first | (with_reducible first | exact HB.out | apply below_alloc | apply pw_below_drewN | apply below_drew1) | exact HB.out)⟩
          ·rw [if_neg c64] at H
           have c64b0 : (t205 == 0) = false := beq_eq_false_iff_ne.mpr c64
           have c64b1 : (t205 != 0) = true := bne_iff_ne.mpr c64
           obtain rfl := Option.some.inj H
           go_wp2
           go_ret
           exact ⟨by first | rfl | (simp [errW_none, errW_some] <;> rfl) | (simp [*, errW_none, errW_some] <;> rfl), by repeat (first | (with_reducible first | exact HB.out | apply below_alloc | apply pw_below_drewN | apply below_drew1) | exact HB.out)⟩
 ·replace c6 := Bool.eq_false_iff.mpr c6
  subst c6
  have H1 : (some false) = some r := by rw [if_neg (show ¬ (false = true) by decide)] at H; exact H
  clear H
  have H := H1
  clear H1
  obtain rfl := Option.some.inj H
  go_enter Try.func3, Try.ntmps3
  go_wp2_with (first | ((with_reducible refine gate_callee (f := 4) rfl ?_); refine goesL_ (some 12) rfl rfl Try.func4 (by kernel_rfl) rfl #[] rfl (by (try simp only [List.map_toArray, List.map_cons, List.map_nil]); first | done | rfl | (simp only [List.length_drop, List.length_take]; rfl)) ?_; (with_reducible refine (masterdisclaw21_awake.calls  false _ A5.out).mono ?_); rintro e w67 ⟨rfl, hb⟩; refine ⟨_, rfl, ?_⟩; have n0_ := Aside0.mk (below_step (by repeat (first | (with_reducible first | exact HB.out | apply below_alloc | apply pw_below_drewN | apply below_drew1) | exact HB.out)) hb); clear HB; have HB := n0_; clear n0_; (try clear hb); (try clear hb2); (try clear hk); (try clear hi)))
  go_ret
  exact ⟨by first | rfl | (simp [errW_none, errW_some] <;> rfl) | (simp [*, errW_none, errW_some] <;> rfl), by repeat (first | (with_reducible first | exact HB.out | apply below_alloc | apply pw_below_drewN | apply below_drew1) | exact HB.out)⟩

/-- THE ONE PURE STATEMENT of masterdisclaw21_DirectoryOrder: yours. -/
def masterdisclaw21_DirectoryOrder.Pure : Prop := ∀ (a0 : ByteArray) (a1 : ByteArray) (a2 : ByteArray) (a3 : Bool), a0.size ≤ 140737488351232 → a1.size ≤ 140737488351232 → a2.size ≤ 140737488351232 → ∃ k, masterdisclaw21_DirectoryOrder.f k a0 a1 a2 a3 = some true
end Go.Proofs.Ythblghfobnhoeaa.A
namespace Go.Proofs.Ythblghfobnhoeaa.Q
open Go.RowKit Go.Proofs.YthblghfobnhoeaaW.PrintWords Go.Proofs.YthblghfobnhoeaaW.PrintLast Go.Proofs.Ythblghfobnhoeaa.A Go.Proofs.Ythblghfobnhoeaa.H
set_option linter.unusedVariables false

/-! DirectoryOrder: the keys are in a total order. -/
def sgn (n : Int) : Int := if n < 0 then -1 else if n > 0 then 1 else 0
theorem sign_f (n : Int) : masterdisclaw21_sign.f n = some (sgn n) := by
  unfold masterdisclaw21_sign.f sgn
  split
  · rfl
  · split <;> rfl
theorem sgn_cmpK (x y : List Int) : sgn (cmpK x y) = cmpK x y := by
  rcases cmpK_val x y with h | h | h <;> rw [h] <;> rfl
theorem order_j1 (k : Nat) (x y z : Int) (hx : x = -1 ∨ x = 0 ∨ x = 1) (hy : y = -1 ∨ y = 0 ∨ y = 1) (hz : z = -1 ∨ z = 0 ∨ z = 1) (h1 : x ≤ 0 → y ≤ 0 → z ≤ 0) (h2 : 0 ≤ x → 0 ≤ y → 0 ≤ z) (h3 : x = 0 → y = z) :
    masterdisclaw21_DirectoryOrder.j1 (k + 1) x y z false = some true := by
  rcases hx with rfl | rfl | rfl <;> rcases hy with rfl | rfl | rfl <;> rcases hz with rfl | rfl | rfl <;> first | (exfalso; have a1 := h1; have a2 := h2; have a3 := h3; omega) | rfl
theorem order_true (a b c : ByteArray) (w : Bool) : masterdisclaw21_DirectoryOrder.f 5000 a b c w = some true := by
  unfold masterdisclaw21_DirectoryOrder.f masterdisclaw21_awake.f
  rw [Option.bind_some, if_pos rfl]
  have big : masterdisclaw21_DirectoryOrder.j0 5000 a b c w true = some true := by rw [masterdisclaw21_DirectoryOrder.j0, if_pos rfl]
  by_cases ha : (a.size : Int) > 300
  · rw [if_pos ha, big]
  · rw [if_neg ha]
    by_cases hb : (b.size : Int) > 300
    · rw [if_pos hb, big]
    · rw [if_neg hb]
      by_cases hc : (c.size : Int) > 300
      · rw [decide_eq_true hc, big]
      · have la : a.size ≤ 1000 := by omega
        have lb : b.size ≤ 1000 := by omega
        have lc : c.size ≤ 1000 := by omega
        have lab := key_length w a b la lb
        have lbc := key_length w b c lb lc
        rw [decide_eq_false hc, masterdisclaw21_DirectoryOrder.j0, if_neg (by decide), compare_f a b w la lb 4999 (by decide), Option.bind_some, compare_f b c w lb lc 4999 (by decide), Option.bind_some, compare_f a c w la lc 4999 (by decide), Option.bind_some, compare_f b a w lb la 4999 (by decide), Option.bind_some]
        rw [sign_f, Option.bind_some, sign_f, Option.bind_some, sgn_cmpK, sgn_cmpK, compare_f a a w la la 4999 (by decide), Option.bind_some, cmpK_self]
        have han := cmpK_anti (key w a) (key w b)
        have hv := cmpK_val (key w a) (key w b)
        rw [wrap_id (by omega) (by omega), if_pos han]
        refine order_j1 _ _ _ _ hv (cmpK_val _ _) (cmpK_val _ _) (cmpK_trans _ _ _ lab lbc) (fun h1 h2 => ?_) (fun h => ?_)
        · have e1 := cmpK_anti (key w b) (key w c)
          have e2 := cmpK_anti (key w a) (key w c)
          have := cmpK_trans (key w c) (key w b) (key w a) lbc.symm lab.symm (by omega) (by omega)
          omega
        · rw [cmpK_eq _ _ lab h]
theorem order_pure : masterdisclaw21_DirectoryOrder.Pure := fun a b c w _ _ _ => ⟨5000, order_true a b c w⟩

end Go.Proofs.Ythblghfobnhoeaa.Q
