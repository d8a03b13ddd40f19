import Derived.Test.YthblghfobnhoeaaGreatKe7e6dfb4
import Derived.Test.YthblghfobnhoeaaGreatKebf21747
import Derived.Test.YthblghfobnhoeaaGreatK5c84df1e
import Derived.Test.YthblghfobnhoeaaGreatK4ce3f8eb
import Derived.Test.YthblghfobnhoeaaGreatKeb91b463
import Derived.Test.YthblghfobnhoeaaGreatK47d75a5b
namespace Go.Proofs.YthblghfobnhoeaaGreat.A
open Go.RowKit Go.Proofs.YthblghfobnhoeaaGreat.H Go.Proofs.YthblghfobnhoeaaGreatW.PrintWords Go.Proofs.YthblghfobnhoeaaGreatW.PrintLast Go.Proofs.YthblghfobnhoeaaGreatW.PrintMore
attribute [local go_sem] max2_int min2_int max_two min_two max_three min_three max_four min_four   -- for this text's walks alone
set_option linter.unusedVariables false
set_option linter.unusedSimpArgs false

/-! ### masterdiscref21_Compare: function 12 -/
def masterdiscref21_Compare.j0 : Nat → ByteArray → ByteArray → Bool → Bool → Option (Int)
 | 0, _, _, _, _ => none
 | k + 1, x0, x1, x2, x22 => if x22 = true then ((masterdiscref21_special.f x0).bind fun t214 => ((masterdiscref21_special.f x1).bind fun t215 => (some (wrap64 (t214 - t215))))) else (if x2 = true then ((masterdiscref21_padded.f k x0 x1 0).bind fun t216 => (some t216)) else ((masterdiscref21_Parts.f k x0).bind fun bt217 => ((masterdiscref21_Parts.f k x1).bind fun bt220 => ((masterdiscref21_padded.f k bt217.1 bt220.1 32).bind fun t223 => (if t223 = 0 then ((masterdiscref21_padded.f k bt217.2.1 bt220.2.1 32).bind fun t224 => (if t224 = 0 then ((masterdiscref01_Repeat.f k 48 (wrap64 ((bt220.2.2.size : Int) - (bt217.2.2.size : Int)))).bind fun t225 => (if t225.size + bt217.2.2.size ≤ 9223372036854775807 then ((masterdiscref01_Repeat.f k 48 (wrap64 (((t225 ++ bt217.2.2).size : Int) - (bt220.2.2.size : Int)))).bind fun t226 => (if t226.size + bt220.2.2.size ≤ 9223372036854775807 then ((masterdiscref21_padded.f k (t226 ++ bt220.2.2) (t225 ++ bt217.2.2) 48).bind fun t227 => (some t227)) else (none))) else (none))) else (some t224))) else (some t223))))))
def masterdiscref21_Compare.f (k : Nat) (a0 : ByteArray) (a1 : ByteArray) (a2 : Bool) : Option (Int) := (masterdiscref21_special.f a0).bind fun t212 => (if t212 < 2 then (masterdiscref21_Compare.j0 k a0 a1 a2 true) else ((masterdiscref21_special.f a1).bind fun t213 => (masterdiscref21_Compare.j0 k a0 a1 a2 (decide (t213 < 2)))))
/-! ### masterdisclaw21_DirectoryCompares: function 3 -/
def masterdisclaw21_DirectoryCompares.j0 : Nat → ByteArray → ByteArray → Bool → Bool → Option (Bool)
 | 0, _, _, _, _ => none
 | k + 1, x0, x1, x2, x16 => if x16 = true then (some true) else ((directory_Compare.f k x0 x1 x2).bind fun t229 => ((masterdisclaw21_sign.f t229).bind fun t230 => ((masterdiscref21_Compare.f k x0 x1 x2).bind fun t231 => ((masterdisclaw21_sign.f t231).bind fun t232 => (some (t230 == t232))))))
def masterdisclaw21_DirectoryCompares.f (k : Nat) (a0 : ByteArray) (a1 : ByteArray) (a2 : Bool) : Option (Bool) := (masterdisclaw21_awake.f).bind fun t228 => (if t228 = true then (if (a0.size : Int) > 300 then (masterdisclaw21_DirectoryCompares.j0 k a0 a1 a2 true) else (masterdisclaw21_DirectoryCompares.j0 k a0 a1 a2 (decide ((a1.size : Int) > 300)))) else (some false))
/-! ### masterdiscref21_Small: function 13 -/
def masterdiscref21_Small.l0 : Nat → List (S45) → Int → Option (Bool)
 | 0, _, _ => none
 | k + 1, x0, x5 => if x5 < (x0.length : Int) then (if 0 ≤ x5 then (if (((rd_T45 x0 x5).f0).size : Int) > 300 then (some false) else (if (((rd_T45 x0 x5).f7).size : Int) > 300 then (some false) else (masterdiscref21_Small.l0 k x0 (wrap64 (x5 + 1))))) else (none)) else (some true)
def masterdiscref21_Small.f (k : Nat) (l0 : List (S45)) (a1 : Int) : Option (Bool) := if (l0.length : Int) > a1 then (some false) else (masterdiscref21_Small.l0 k l0 0)
set_option maxHeartbeats 8000000 in
set_option maxRecDepth 100000 in
theorem masterdiscref21_Small.calls (k : Nat) (A0 : Option Addr) (c0 : Nat) (l0 : List (S45)) (a1 : Int) (r : Bool) (w : World) (hr0 : Kd.C k45 w A0 l0.length l0) (hc0 : l0.length ≤ c0) (h : masterdiscref21_Small.f k l0 a1 = some r) :
  Calls Tryz.prog 13 #[.slice A0 l0.length c0, .int .i64 a1] w fun e w' => e = .returned (.bool r) ∧ Drawn0 w w' := by
 have HR0 := Aside0.mk hr0
 have HC0 := Aside0.mk hc0
 clear hr0 hc0
 have H : (if (l0.length : Int) > a1 then (some false) else (masterdiscref21_Small.l0 k l0 0)) = some r := h
 clear h
 by_cases c3 : (l0.length : Int) > a1
 ·rw [if_pos c3] at H
  have c3b0 : decide (a1 < (l0.length : Int)) = true := decide_eq_true c3
  clear c3
  obtain rfl := Option.some.inj H
  go_enter Tryz.func13, Tryz.ntmps13
  go_wp2
  go_ret
  exact ⟨by first | rfl | (simp; done) | (simp [*]; done), by repeat (first | exact Drawn0.refl _ | apply Drawn0.step)⟩
 ·rw [if_neg c3] at H
  have c3b0 : decide (a1 < (l0.length : Int)) = false := decide_eq_false c3
  clear c3
  have H' := Aside0.mk H
  clear H
  go_enter Tryz.func13, Tryz.ntmps13
  go_wp2
  go_loopg [5] k (fun kq v5 w' => ∃ (x5_1 : Int), v5 = .int .i64 x5_1 ∧ Aside0 (masterdiscref21_Small.l0 kq l0 x5_1 = some r) ∧ Aside0 (kq ≤ k) ∧ Drawn0 w w')
  case atStart => exact ⟨(0), (by first | rfl | (simp; done) | (simp [*]; done)), H', ⟨Nat.le_refl _⟩, by repeat (first | exact Drawn0.refl _ | apply Drawn0.step)⟩
  case round =>
   clear H'
   try clear c1
   try clear p2
   try clear c3
   try clear c3b0
   obtain ⟨x5_1, rfl, HA, HK1, ⟨m1, rfl⟩⟩ := hrel
   cases gk with
   | zero => exact absurd HA.out (by simp [masterdiscref21_Small.l0])
   | succ k1 =>
    have H := HA.out
    clear HA
    simp only [masterdiscref21_Small.l0] at H
    by_cases c4 : x5_1 < (l0.length : Int)
    ·rw [if_pos c4] at H
     have c4b0 : decide (x5_1 < (l0.length : Int)) = true := decide_eq_true c4
     clear c4
     by_cases c5 : 0 ≤ x5_1
     rotate_left
     ·rw [if_neg c5] at H
      exact absurd H (by simp)
     rw [if_pos c5] at H
     have c5b0 : decide (0 ≤ x5_1) = true := decide_eq_true c5
     clear c5
     by_cases c6 : (((rd_T45 l0 x5_1).f0).size : Int) > 300
     ·rw [if_pos c6] at H
      have c6b0 : decide (300 < (((rd_T45 l0 x5_1).f0).size : Int)) = true := decide_eq_true c6
      have c6b1 : decide (300 < ((rd_T45 l0 x5_1).f0).size) = true := decide_eq_true (by omega)
      clear c6
      obtain rfl := Option.some.inj H
      have p233 : 0 ≤ (x5_1 : Int) := of_decide_eq_true (by first | (with_reducible assumption) | assumption)
      have q233 : x5_1 < (l0.length : Int) := of_decide_eq_true (by first | (with_reducible assumption) | assumption)
      obtain ⟨ad233, e233, hx233_0, hx233_1, hx233_2, hx233_3, hx233_4, hx233_5, hx233_6, hx233_7⟩ := at_T45 HR0.out x5_1 p233 q233
      cases e233
      replace p233 := eq_true p233
      replace q233 := eq_true q233
      go_wp2
      go_ret
      exact ⟨by first | rfl | (simp; done) | (simp [*]; done), by repeat (first | exact Drawn0.refl _ | apply Drawn0.step)⟩
     ·rw [if_neg c6] at H
      have c6b0 : decide (300 < (((rd_T45 l0 x5_1).f0).size : Int)) = false := decide_eq_false c6
      have c6b1 : decide (300 < ((rd_T45 l0 x5_1).f0).size) = false := decide_eq_false (by omega)
      clear c6
      by_cases c7 : (((rd_T45 l0 x5_1).f7).size : Int) > 300
      ·rw [if_pos c7] at H
       have c7b0 : decide (300 < (((rd_T45 l0 x5_1).f7).size : Int)) = true := decide_eq_true c7
       have c7b1 : decide (300 < ((rd_T45 l0 x5_1).f7).size) = true := decide_eq_true (by omega)
       clear c7
       obtain rfl := Option.some.inj H
       have p233 : 0 ≤ (x5_1 : Int) := of_decide_eq_true (by first | (with_reducible assumption) | assumption)
       have q233 : x5_1 < (l0.length : Int) := of_decide_eq_true (by first | (with_reducible assumption) | assumption)
       obtain ⟨ad233, e233, hx233_0, hx233_1, hx233_2, hx233_3, hx233_4, hx233_5, hx233_6, hx233_7⟩ := at_T45 HR0.out x5_1 p233 q233
       cases e233
       replace p233 := eq_true p233
       replace q233 := eq_true q233
       have p234 : 0 ≤ (x5_1 : Int) := of_decide_eq_true (by first | (with_reducible assumption) | assumption)
       have q234 : x5_1 < (l0.length : Int) := of_decide_eq_true (by first | (with_reducible assumption) | assumption)
       obtain ⟨ad234, e234, hx234_0, hx234_1, hx234_2, hx234_3, hx234_4, hx234_5, hx234_6, hx234_7⟩ := at_T45 HR0.out x5_1 p234 q234
       obtain rfl : ad233 = ad234 := (by injection e234)
       replace p234 := eq_true p234
       replace q234 := eq_true q234
       go_wp2
       go_ret
       exact ⟨by first | rfl | (simp; done) | (simp [*]; done), by repeat (first | exact Drawn0.refl _ | apply Drawn0.step)⟩
      ·rw [if_neg c7] at H
       have c7b0 : decide (300 < (((rd_T45 l0 x5_1).f7).size : Int)) = false := decide_eq_false c7
       have c7b1 : decide (300 < ((rd_T45 l0 x5_1).f7).size) = false := decide_eq_false (by omega)
       clear c7
       have H' := Aside0.mk H
       clear H
       have p233 : 0 ≤ (x5_1 : Int) := of_decide_eq_true (by first | (with_reducible assumption) | assumption)
       have q233 : x5_1 < (l0.length : Int) := of_decide_eq_true (by first | (with_reducible assumption) | assumption)
       obtain ⟨ad233, e233, hx233_0, hx233_1, hx233_2, hx233_3, hx233_4, hx233_5, hx233_6, hx233_7⟩ := at_T45 HR0.out x5_1 p233 q233
       cases e233
       replace p233 := eq_true p233
       replace q233 := eq_true q233
       have p234 : 0 ≤ (x5_1 : Int) := of_decide_eq_true (by first | (with_reducible assumption) | assumption)
       have q234 : x5_1 < (l0.length : Int) := of_decide_eq_true (by first | (with_reducible assumption) | assumption)
       obtain ⟨ad234, e234, hx234_0, hx234_1, hx234_2, hx234_3, hx234_4, hx234_5, hx234_6, hx234_7⟩ := at_T45 HR0.out x5_1 p234 q234
       obtain rfl : ad233 = ad234 := (by injection e234)
       replace p234 := eq_true p234
       replace q234 := eq_true q234
       go_wp2
       go_roundg k1
       case measure => have := HK1.out; omega
       case rel => exact ⟨(wrap64 (x5_1 + 1)), (by first | rfl | (simp; done) | (simp [*]; done)), H', ⟨by have := HK1.out; omega⟩, by repeat (first | exact Drawn0.refl _ | apply Drawn0.step)⟩
    ·rw [if_neg c4] at H
     have c4b0 : decide (x5_1 < (l0.length : Int)) = false := decide_eq_false c4
     clear c4
     obtain rfl := Option.some.inj H
     go_wp2
     go_ret
     exact ⟨by first | rfl | (simp; done) | (simp [*]; done), by repeat (first | exact Drawn0.refl _ | apply Drawn0.step)⟩

/-! ### masterdiscref21_Find: function 15 -/
-- NOT PRINTED: function 18 (masterdiscref21_Sort)

-- NOT PRINTED: function 4 (masterdisclaw21_DirectorySorts)

end Go.Proofs.YthblghfobnhoeaaGreat.A
namespace Go.Proofs.YthblghfobnhoeaaGreat.A
open Go.RowKit Go.Proofs.YthblghfobnhoeaaGreat.H Go.Proofs.YthblghfobnhoeaaGreatW.PrintWords Go.Proofs.YthblghfobnhoeaaGreatW.PrintLast Go.Proofs.YthblghfobnhoeaaGreatW.PrintMore
attribute [local go_sem] max2_int min2_int max_two min_two max_three min_three max_four min_four   -- for this text's walks alone
set_option linter.unusedVariables false
set_option linter.unusedSimpArgs false

/-! ### masterdiscref21_Offsets: function 23 -/
mutual
def masterdiscref21_Offsets.l0 : Nat → List Int → List Int → Int → Int → Option (List Int)
 | 0, _, _, _, _ => none
 | k + 1, x0, x3, x4, x5 => if x5 < (x0.length : Int) then (if 0 ≤ x5 then (if (rd x0 x5) < 34 then (masterdiscref21_Offsets.j1 k x0 x3 x4 x5 true) else (if (rd x0 x5) > 254 then (masterdiscref21_Offsets.j1 k x0 x3 x4 x5 true) else (masterdiscref21_Offsets.j1 k x0 x3 x4 x5 ((Int.tmod (rd x0 x5) 2) == 1)))) else (none)) else (some x3)
def masterdiscref21_Offsets.j1 : Nat → List Int → List Int → Int → Int → Bool → Option (List Int)
 | 0, _, _, _, _, _ => none
 | k + 1, x0, x3, x4, x5, x31 => if x31 = true then (some ([] : List Int)) else (if 0 ≤ x5 then (if x5 < (x0.length : Int) then (if (wrap64 ((Int.tmod x4 2048) + (rd x0 x5))) > 2048 then (if x3.length < 17592186044416 then (masterdiscref21_Offsets.l0 k x0 (x3 ++ [wrap64 ((wrap64 (x4 - (Int.tmod x4 2048))) + 2048)]) (wrap64 ((wrap64 ((wrap64 (x4 - (Int.tmod x4 2048))) + 2048)) + (rd x0 x5))) (wrap64 (x5 + 1))) else (none)) else (if x3.length < 17592186044416 then (masterdiscref21_Offsets.l0 k x0 (x3 ++ [x4]) (wrap64 (x4 + (rd x0 x5))) (wrap64 (x5 + 1))) else (none))) else (none)) else (none))
end
def masterdiscref21_Offsets.f (k : Nat) (l0 : List Int) : Option (List Int) := masterdiscref21_Offsets.l0 k l0 ([] : List Int) 0 0
/-! ### masterdiscref21_Blocks: function 20 -/
def masterdiscref21_Blocks.f (k : Nat) (l0 : List Int) : Option (Int) := (masterdiscref21_Offsets.f k l0).bind fun t263 => (if (t263.length : Int) = 0 then (some 0) else (if 0 ≤ (wrap64 ((t263.length : Int) - 1)) then (if (wrap64 ((t263.length : Int) - 1)) < (t263.length : Int) then (some (wrap64 ((wrap64 (Int.tdiv (rd t263 (wrap64 ((t263.length : Int) - 1))) 2048)) + 1))) else (none)) else (none)))
/-! ### masterdisclaw21_DirectoryPlaces: function 5 -/
def masterdisclaw21_DirectoryPlaces.f (k : Nat) (l0 : List Int) : Option (Bool) := (masterdisclaw21_awake.f).bind fun t267 => (if t267 = true then (if (l0.length : Int) > 300 then (some true) else ((directory_Blocks.f k l0).bind fun t268 => ((masterdiscref21_Blocks.f k l0).bind fun t269 => (if t268 = t269 then ((directory_Offsets.f k l0).bind fun t270 => ((masterdiscref21_Offsets.f k l0).bind fun t273 => ((slices_Equal_int_int.f k t270 t273).bind fun t276 => (some t276)))) else (some false))))) else (some false))
/-- THE ONE PURE STATEMENT of masterdisclaw21_DirectoryPlaces: yours. -/
def masterdisclaw21_DirectoryPlaces.Pure : Prop := ∀ (l0 : List Int), l0.length ≤ maxLen → l0.length * 8 ≤ 140737488351232 → (∀ x ∈ l0, (Lit.int .i64 x).wf = true) → ∃ k, masterdisclaw21_DirectoryPlaces.f k l0 = some true
/-! ### masterdiscref20_Size: function 26 -/
def masterdiscref20_Size.j0 : Nat → Int → Int → Bool → Option (Int)
 | 0, _, _, _ => none
 | k + 1, x0, x1, x24 => if x24 = true then (some 0) else (if (Int.tmod x0 2) = 0 then (if (wrap64 ((wrap64 ((wrap64 (33 + x0)) + x1)) + 1)) > 254 then (some 0) else (some (wrap64 ((wrap64 ((wrap64 (33 + x0)) + x1)) + 1)))) else (if (wrap64 ((wrap64 (33 + x0)) + x1)) > 254 then (some 0) else (some (wrap64 ((wrap64 (33 + x0)) + x1)))))
def masterdiscref20_Size.f (k : Nat) (a0 : Int) (a1 : Int) : Option (Int) := if a0 < 1 then (masterdiscref20_Size.j0 k a0 a1 true) else (if a0 > 254 then (masterdiscref20_Size.j0 k a0 a1 true) else (if a1 < 0 then (masterdiscref20_Size.j0 k a0 a1 true) else (if a1 > 254 then (masterdiscref20_Size.j0 k a0 a1 true) else (masterdiscref20_Size.j0 k a0 a1 ((Int.tmod a1 2) == 1)))))
theorem masterdiscref20_Size.mono_l : ∀ k, (∀ y0 y1 y2, LeO (masterdiscref20_Size.j0 k y0 y1 y2) (masterdiscref20_Size.j0 (k + 1) y0 y1 y2))
 | 0 => fun _ _ _ r h => by simp [masterdiscref20_Size.j0] at h
 | k + 1 => by
  have ih0 := masterdiscref20_Size.mono_l k
  ·intro y0 y1 y2
   unfold masterdiscref20_Size.j0
   repeat' first
   | (with_reducible exact ih0 _ _ _)
   | (with_reducible exact LeO.refl _)
   | (with_reducible exact LeO.none _)
   | (with_reducible refine LeO.ite ?_ ?_)
   | (with_reducible refine LeO.bind ?_ (fun _ => ?_))
   | exact ih0 _ _ _
   | exact LeO.none _
   | refine LeO.ite ?_ ?_
   | refine LeO.bind ?_ (fun _ => ?_)
theorem masterdiscref20_Size.mono : ∀ a0 a1 k, LeO (masterdiscref20_Size.f k a0 a1) (masterdiscref20_Size.f (k + 1) a0 a1) := by
 intro a0 a1 k
 have ih0 := masterdiscref20_Size.mono_l k
 unfold masterdiscref20_Size.f
 repeat' first
   | (with_reducible exact ih0 _ _ _)
   | (with_reducible exact LeO.refl _)
   | (with_reducible exact LeO.none _)
   | (with_reducible refine LeO.ite ?_ ?_)
   | (with_reducible refine LeO.bind ?_ (fun _ => ?_))
   | exact ih0 _ _ _
   | exact LeO.none _
   | refine LeO.ite ?_ ?_
   | refine LeO.bind ?_ (fun _ => ?_)
set_option maxHeartbeats 8000000 in
set_option maxRecDepth 100000 in
theorem masterdiscref20_Size.calls (k : Nat) (a0 : Int) (a1 : Int) (r : Int) (w : World) (h : masterdiscref20_Size.f k a0 a1 = some r) :
  Calls Tryz.prog 26 #[.int .i64 a0, .int .i64 a1] w fun e w' => e = .returned (.int .i64 r) ∧ Drawn0 w w' := by
 have H : (if a0 < 1 then (masterdiscref20_Size.j0 k a0 a1 true) else (if a0 > 254 then (masterdiscref20_Size.j0 k a0 a1 true) else (if a1 < 0 then (masterdiscref20_Size.j0 k a0 a1 true) else (if a1 > 254 then (masterdiscref20_Size.j0 k a0 a1 true) else (masterdiscref20_Size.j0 k a0 a1 ((Int.tmod a1 2) == 1)))))) = some r := h
 clear h
 have HC3 := Aside0.mk H
 clear H
 go_enter Tryz.func26, Tryz.ntmps26
 go_upto_region 1 with (fail)
 go_cut [24] (fun v24 wc => ∃ (kq : Nat) (x24_2 : Bool), v24 = .bool x24_2 ∧ Aside0 (masterdiscref20_Size.j0 kq a0 a1 x24_2 = some r) ∧ Aside0 (kq ≤ k) ∧ Drawn0 w wc)
 case first =>
  have H := HC3.out
  clear HC3
  by_cases c4 : a0 < 1
  ·rw [if_pos c4] at H
   have c4b0 : decide (a0 < 1) = true := decide_eq_true c4
   clear c4
   (first | rw [c4b0] | (simp only [i64_w, i32_w]; rw [c4b0]) | skip)
   have H' := Aside0.mk H
   clear H
   go_wp2
   go_meet
   case rel => exact ⟨_, (true), (by first | rfl | (simp; done) | (simp [*]; done)), H', ⟨by first | omega | exact Nat.le_refl _⟩, by repeat (first | exact Drawn0.refl _ | apply Drawn0.step)⟩
  ·rw [if_neg c4] at H
   have c4b0 : decide (a0 < 1) = false := decide_eq_false c4
   clear c4
   (first | rw [c4b0] | (simp only [i64_w, i32_w]; rw [c4b0]) | skip)
   by_cases c5 : a0 > 254
   ·rw [if_pos c5] at H
    have c5b0 : decide (254 < a0) = true := decide_eq_true c5
    clear c5
    have H' := Aside0.mk H
    clear H
    go_wp2
    go_meet
    case rel => exact ⟨_, (true), (by first | rfl | (simp; done) | (simp [*]; done)), H', ⟨by first | omega | exact Nat.le_refl _⟩, by repeat (first | exact Drawn0.refl _ | apply Drawn0.step)⟩
   ·rw [if_neg c5] at H
    have c5b0 : decide (254 < a0) = false := decide_eq_false c5
    clear c5
    by_cases c6 : a1 < 0
    ·rw [if_pos c6] at H
     have c6b0 : decide (a1 < 0) = true := decide_eq_true c6
     clear c6
     have H' := Aside0.mk H
     clear H
     go_wp2
     go_meet
     case rel => exact ⟨_, (true), (by first | rfl | (simp; done) | (simp [*]; done)), H', ⟨by first | omega | exact Nat.le_refl _⟩, by repeat (first | exact Drawn0.refl _ | apply Drawn0.step)⟩
    ·rw [if_neg c6] at H
     have c6b0 : decide (a1 < 0) = false := decide_eq_false c6
     clear c6
     by_cases c7 : a1 > 254
     ·rw [if_pos c7] at H
      have c7b0 : decide (254 < a1) = true := decide_eq_true c7
      clear c7
      have H' := Aside0.mk H
      clear H
      go_wp2
      go_meet
      case rel => exact ⟨_, (true), (by first | rfl | (simp; done) | (simp [*]; done)), H', ⟨by first | omega | exact Nat.le_refl _⟩, by repeat (first | exact Drawn0.refl _ | apply Drawn0.step)⟩
     ·rw [if_neg c7] at H
      have c7b0 : decide (254 < a1) = false := decide_eq_false c7
      clear c7
      have H' := Aside0.mk H
      clear H
      go_wp2
      go_meet
      case rel => exact ⟨_, (((Int.tmod a1 2) == 1)), (by first | rfl | (simp; done) | (simp [*]; done)), H', ⟨by first | omega | exact Nat.le_refl _⟩, by repeat (first | exact Drawn0.refl _ | apply Drawn0.step)⟩
 case rest =>
  clear HC3
  try clear c2
  try clear p2
  try clear c4
  try clear c4b0
  try clear c5
  try clear c5b0
  try clear c6
  try clear c6b0
  try clear c7
  try clear c7b0
  obtain ⟨kq, x24_2, rfl, HA, HJ2, ⟨mc2, rfl⟩⟩ := hcut
  cases kq with
  | zero => exact absurd HA.out (by simp [masterdiscref20_Size.j0])
  | succ kj2 =>
   have H := HA.out
   clear HA
   simp only [masterdiscref20_Size.j0] at H
   by_cases c8 : x24_2 = true
   ·subst c8
    have H1 : (some 0) = some r := by rw [if_pos rfl] at H; exact H
    clear H
    have H := H1
    clear H1
    obtain rfl := Option.some.inj H
    go_wp2
    go_ret
    exact ⟨by first | rfl | (simp; done) | (simp [*]; done), by repeat (first | exact Drawn0.refl _ | apply Drawn0.step)⟩
   ·replace c8 := Bool.eq_false_iff.mpr c8
    subst c8
    have H1 : (if (Int.tmod a0 2) = 0 then (if (wrap64 ((wrap64 ((wrap64 (33 + a0)) + a1)) + 1)) > 254 then (some 0) else (some (wrap64 ((wrap64 ((wrap64 (33 + a0)) + a1)) + 1)))) else (if (wrap64 ((wrap64 (33 + a0)) + a1)) > 254 then (some 0) else (some (wrap64 ((wrap64 (33 + a0)) + a1))))) = some r := by rw [if_neg (show ¬ (false = true) by decide)] at H; exact H
    clear H
    have H := H1
    clear H1
    by_cases c9 : (Int.tmod a0 2) = 0
    ·rw [if_pos c9] at H
     have c9b0 : ((Int.tmod a0 2) == 0) = true := beq_iff_eq.mpr c9
     have c9b1 : ((Int.tmod a0 2) != 0) = false := bne_eq_false_iff_eq.mpr c9
     clear c9
     by_cases c10 : (wrap64 ((wrap64 ((wrap64 (33 + a0)) + a1)) + 1)) > 254
     ·rw [if_pos c10] at H
      have c10b0 : decide (254 < (wrap64 ((wrap64 ((wrap64 (33 + a0)) + a1)) + 1))) = true := decide_eq_true c10
      clear c10
      obtain rfl := Option.some.inj H
      go_wp2
      go_ret
      exact ⟨by first | rfl | (simp; done) | (simp [*]; done), by repeat (first | exact Drawn0.refl _ | apply Drawn0.step)⟩
     ·rw [if_neg c10] at H
      have c10b0 : decide (254 < (wrap64 ((wrap64 ((wrap64 (33 + a0)) + a1)) + 1))) = false := decide_eq_false c10
      clear c10
      obtain rfl := Option.some.inj H
      go_wp2
      go_ret
      exact ⟨by first | rfl | (simp; done) | (simp [*]; done), by repeat (first | exact Drawn0.refl _ | apply Drawn0.step)⟩
    ·rw [if_neg c9] at H
     have c9b0 : ((Int.tmod a0 2) == 0) = false := beq_eq_false_iff_ne.mpr c9
     have c9b1 : ((Int.tmod a0 2) != 0) = true := bne_iff_ne.mpr c9
     by_cases c11 : (wrap64 ((wrap64 (33 + a0)) + a1)) > 254
     ·rw [if_pos c11] at H
      have c11b0 : decide (254 < (wrap64 ((wrap64 (33 + a0)) + a1))) = true := decide_eq_true c11
      clear c11
      obtain rfl := Option.some.inj H
      go_wp2
      go_ret
      exact ⟨by first | rfl | (simp; done) | (simp [*]; done), by repeat (first | exact Drawn0.refl _ | apply Drawn0.step)⟩
     ·rw [if_neg c11] at H
      have c11b0 : decide (254 < (wrap64 ((wrap64 (33 + a0)) + a1))) = false := decide_eq_false c11
      clear c11
      obtain rfl := Option.some.inj H
      go_wp2
      go_ret
      exact ⟨by first | rfl | (simp; done) | (simp [*]; done), by repeat (first | exact Drawn0.refl _ | apply Drawn0.step)⟩

/-! ### masterdiscref16_Time: function 100 -/
def masterdiscref16_Time.f (a0 : Int) : Option (Bool) := if a0 ≥ 315532800 then (some (decide (a0 ≤ 4102444799))) else (some false)
/-! ### masterdiscref16_Quarter: function 101 -/
def masterdiscref16_Quarter.f (a0 : Int) : Option (Bool) := if a0 ≥ (-720) then (if a0 ≤ 780 then (some ((Int.tmod a0 15) == 0)) else (some false)) else (some false)
/-! ### masterdiscref16_Zone: function 122 -/
def masterdiscref16_Zone.f (a0 : Int) : Option (Bool) := if a0 ≥ (-1440) then (some (decide (a0 ≤ 1440))) else (some false)
/-! ### masterdiscref16_leap: function 141 -/
def masterdiscref16_leap.f (a0 : Int) : Option (Bool) := if (Int.tmod a0 4) = 0 then (if (Int.tmod a0 100) = 0 then (some ((Int.tmod a0 400) == 0)) else (some true)) else (some false)
/-! ### masterdiscref16_year: function 133 -/
def masterdiscref16_year.f (a0 : Int) : Option (Int) := (masterdiscref16_leap.f a0).bind fun t277 => (if t277 = true then (some 366) else (some 365))
end Go.Proofs.YthblghfobnhoeaaGreat.A
namespace Go.Proofs.YthblghfobnhoeaaGreat.A
open Go.RowKit Go.Proofs.YthblghfobnhoeaaGreat.H Go.Proofs.YthblghfobnhoeaaGreatW.PrintWords Go.Proofs.YthblghfobnhoeaaGreatW.PrintLast Go.Proofs.YthblghfobnhoeaaGreatW.PrintMore
attribute [local go_sem] max2_int min2_int max_two min_two max_three min_three max_four min_four   -- for this text's walks alone
set_option linter.unusedVariables false
set_option linter.unusedSimpArgs false

/-! ### masterdiscref16_days: function 134 -/
def masterdiscref16_days.f (a0 : Int) (a1 : Int) : Option (Int) := if a1 = 2 then ((masterdiscref16_leap.f a0).bind fun t278 => (if t278 = true then (some 29) else (some 28))) else (if a1 = 4 then (some 30) else (if a1 = 6 then (some 30) else (if a1 = 9 then (some 30) else (if a1 = 11 then (some 30) else (some 31)))))
/-! ### masterdiscref16_utc: function 123 -/
mutual
def masterdiscref16_utc.l0 : Nat → Int → Int → Int → Int → Int → Int → Int → Int → Option (Int × Int × Int × Int × Int × Int)
 | 0, _, _, _, _, _, _, _, _ => none
 | k + 1, x0, x4, x281000, x281001, x281002, x281003, x281004, x281005 => (masterdiscref16_year.f x281000).bind fun t281 => (if x4 ≥ t281 then ((masterdiscref16_year.f x281000).bind fun t282 => (masterdiscref16_utc.l0 k x0 (wrap64 (x4 - t282)) (wrap64 (x281000 + 1)) x281001 x281002 x281003 x281004 x281005)) else (masterdiscref16_utc.l1 k x0 x4 x281000 x281001 x281002 x281003 x281004 x281005))
def masterdiscref16_utc.l1 : Nat → Int → Int → Int → Int → Int → Int → Int → Int → Option (Int × Int × Int × Int × Int × Int)
 | 0, _, _, _, _, _, _, _, _ => none
 | k + 1, x0, x4, x281000, x281001, x281002, x281003, x281004, x281005 => (masterdiscref16_days.f x281000 x281001).bind fun t283 => (if x4 ≥ t283 then ((masterdiscref16_days.f x281000 x281001).bind fun t284 => (masterdiscref16_utc.l1 k x0 (wrap64 (x4 - t284)) x281000 (wrap64 (x281001 + 1)) x281002 x281003 x281004 x281005)) else (some (x281000, x281001, wrap64 (1 + x4), wrap64 (Int.tdiv (Int.tmod x0 86400) 3600), Int.tmod (wrap64 (Int.tdiv (Int.tmod x0 86400) 60)) 60, Int.tmod x0 60)))
end
def masterdiscref16_utc.f (k : Nat) (a0 : Int) : Option (Int × Int × Int × Int × Int × Int) := masterdiscref16_utc.l0 k a0 (wrap64 (Int.tdiv a0 86400)) 1970 1 1 0 0 0
theorem masterdiscref16_utc.mono_l : ∀ k, (∀ y0 y1 y2 y3 y4 y5 y6 y7, LeO (masterdiscref16_utc.l0 k y0 y1 y2 y3 y4 y5 y6 y7) (masterdiscref16_utc.l0 (k + 1) y0 y1 y2 y3 y4 y5 y6 y7)) ∧ (∀ y0 y1 y2 y3 y4 y5 y6 y7, LeO (masterdiscref16_utc.l1 k y0 y1 y2 y3 y4 y5 y6 y7) (masterdiscref16_utc.l1 (k + 1) y0 y1 y2 y3 y4 y5 y6 y7))
 | 0 => ⟨fun _ _ _ _ _ _ _ _ r h => by simp [masterdiscref16_utc.l0] at h, fun _ _ _ _ _ _ _ _ r h => by simp [masterdiscref16_utc.l1] at h⟩
 | k + 1 => by
  obtain ⟨ih0, ih1⟩ := masterdiscref16_utc.mono_l k
  refine ⟨?_, ?_⟩
  ·intro y0 y1 y2 y3 y4 y5 y6 y7
   unfold masterdiscref16_utc.l0
   repeat' first
   | (with_reducible exact ih0 _ _ _ _ _ _ _ _)
   | (with_reducible exact ih1 _ _ _ _ _ _ _ _)
   | (with_reducible exact LeO.refl _)
   | (with_reducible exact LeO.none _)
   | (with_reducible refine LeO.ite ?_ ?_)
   | (with_reducible refine LeO.bind ?_ (fun _ => ?_))
   | exact ih0 _ _ _ _ _ _ _ _
   | exact ih1 _ _ _ _ _ _ _ _
   | exact LeO.none _
   | refine LeO.ite ?_ ?_
   | refine LeO.bind ?_ (fun _ => ?_)
  ·intro y0 y1 y2 y3 y4 y5 y6 y7
   unfold masterdiscref16_utc.l1
   repeat' first
   | (with_reducible exact ih0 _ _ _ _ _ _ _ _)
   | (with_reducible exact ih1 _ _ _ _ _ _ _ _)
   | (with_reducible exact LeO.refl _)
   | (with_reducible exact LeO.none _)
   | (with_reducible refine LeO.ite ?_ ?_)
   | (with_reducible refine LeO.bind ?_ (fun _ => ?_))
   | exact ih0 _ _ _ _ _ _ _ _
   | exact ih1 _ _ _ _ _ _ _ _
   | exact LeO.none _
   | refine LeO.ite ?_ ?_
   | refine LeO.bind ?_ (fun _ => ?_)
theorem masterdiscref16_utc.mono : ∀ a0 k, LeO (masterdiscref16_utc.f k a0) (masterdiscref16_utc.f (k + 1) a0) := by
 intro a0 k
 obtain ⟨ih0, ih1⟩ := masterdiscref16_utc.mono_l k
 unfold masterdiscref16_utc.f
 repeat' first
   | (with_reducible exact ih0 _ _ _ _ _ _ _ _)
   | (with_reducible exact ih1 _ _ _ _ _ _ _ _)
   | (with_reducible exact LeO.refl _)
   | (with_reducible exact LeO.none _)
   | (with_reducible refine LeO.ite ?_ ?_)
   | (with_reducible refine LeO.bind ?_ (fun _ => ?_))
   | exact ih0 _ _ _ _ _ _ _ _
   | exact ih1 _ _ _ _ _ _ _ _
   | exact LeO.none _
   | refine LeO.ite ?_ ?_
   | refine LeO.bind ?_ (fun _ => ?_)
/-! ### masterdiscref16_Split: function 102 -/
def masterdiscref16_Split.f (k : Nat) (a0 : Int) (a1 : Int) : Option (Int × Int × Int × Int × Int × Int × Int) := (masterdiscref16_Time.f a0).bind fun t286 => (if t286 = true then ((masterdiscref16_Zone.f a1).bind fun t287 => (if t287 = true then ((masterdiscref16_utc.f k (wrap64 (a0 + (wrap64 (60 * a1))))).bind fun bt288 => (some (bt288.1, bt288.2.1, bt288.2.2.1, bt288.2.2.2.1, bt288.2.2.2.2.1, bt288.2.2.2.2.2, 0))) else (some (0, 0, 0, 0, 0, 0, 2)))) else (some (0, 0, 0, 0, 0, 0, 2)))
theorem masterdiscref16_Split.mono : ∀ a0 a1 k, LeO (masterdiscref16_Split.f k a0 a1) (masterdiscref16_Split.f (k + 1) a0 a1) := by
 intro a0 a1 k
 unfold masterdiscref16_Split.f
 repeat' first
   | (with_reducible exact masterdiscref16_utc.mono _ _)
   | (with_reducible exact LeO.refl _)
   | (with_reducible exact LeO.none _)
   | (with_reducible refine LeO.ite ?_ ?_)
   | (with_reducible refine LeO.bind ?_ (fun _ => ?_))
   | exact masterdiscref16_utc.mono _ _
   | exact LeO.none _
   | refine LeO.ite ?_ ?_
   | refine LeO.bind ?_ (fun _ => ?_)
/-! ### masterdiscref16_signed: function 103 -/
def masterdiscref16_signed.f (a0 : Int) : Option (Int) := some ((Int.tmod (wrap64 (a0 + 256)) 256) % 256)
/-! ### masterdiscref16_Record: function 72 -/
def masterdiscref16_Record.j0 : Nat → Int → Int → Bool → Option (ByteArray × Int)
 | 0, _, _, _ => none
 | k + 1, x0, x1, x15 => if x15 = true then (some ((⟨#[]⟩ : ByteArray), 2)) else ((masterdiscref16_Split.f k x0 x1).bind fun bt296 => ((masterdiscref16_signed.f (wrap64 (Int.tdiv x1 15))).bind fun t304 => (some (strOfNums (([(wrap64 (bt296.1 - 1900)) % 256, (bt296.2.1) % 256, (bt296.2.2.1) % 256, (bt296.2.2.2.1) % 256, (bt296.2.2.2.2.1) % 256, (bt296.2.2.2.2.2.1) % 256, t304] : List Int)), 0))))
def masterdiscref16_Record.f (k : Nat) (a0 : Int) (a1 : Int) : Option (ByteArray × Int) := (masterdiscref16_Time.f a0).bind fun t294 => (if t294 = true then ((masterdiscref16_Quarter.f a1).bind fun t295 => (masterdiscref16_Record.j0 k a0 a1 (!t295))) else (masterdiscref16_Record.j0 k a0 a1 true))
theorem masterdiscref16_Record.mono_l : ∀ k, (∀ y0 y1 y2, LeO (masterdiscref16_Record.j0 k y0 y1 y2) (masterdiscref16_Record.j0 (k + 1) y0 y1 y2))
 | 0 => fun _ _ _ r h => by simp [masterdiscref16_Record.j0] at h
 | k + 1 => by
  have ih0 := masterdiscref16_Record.mono_l k
  ·intro y0 y1 y2
   unfold masterdiscref16_Record.j0
   repeat' first
   | (with_reducible exact ih0 _ _ _)
   | (with_reducible exact masterdiscref16_Split.mono _ _ _)
   | (with_reducible exact LeO.refl _)
   | (with_reducible exact LeO.none _)
   | (with_reducible refine LeO.ite ?_ ?_)
   | (with_reducible refine LeO.bind ?_ (fun _ => ?_))
   | exact ih0 _ _ _
   | exact masterdiscref16_Split.mono _ _ _
   | exact LeO.none _
   | refine LeO.ite ?_ ?_
   | refine LeO.bind ?_ (fun _ => ?_)
theorem masterdiscref16_Record.mono : ∀ a0 a1 k, LeO (masterdiscref16_Record.f k a0 a1) (masterdiscref16_Record.f (k + 1) a0 a1) := by
 intro a0 a1 k
 have ih0 := masterdiscref16_Record.mono_l k
 unfold masterdiscref16_Record.f
 repeat' first
   | (with_reducible exact ih0 _ _ _)
   | (with_reducible exact masterdiscref16_Split.mono _ _ _)
   | (with_reducible exact LeO.refl _)
   | (with_reducible exact LeO.none _)
   | (with_reducible refine LeO.ite ?_ ?_)
   | (with_reducible refine LeO.bind ?_ (fun _ => ?_))
   | exact ih0 _ _ _
   | exact masterdiscref16_Split.mono _ _ _
   | exact LeO.none _
   | refine LeO.ite ?_ ?_
   | refine LeO.bind ?_ (fun _ => ?_)
end Go.Proofs.YthblghfobnhoeaaGreat.A
namespace Go.Proofs.YthblghfobnhoeaaGreat.A
open Go.RowKit Go.Proofs.YthblghfobnhoeaaGreat.H Go.Proofs.YthblghfobnhoeaaGreatW.PrintWords Go.Proofs.YthblghfobnhoeaaGreatW.PrintLast Go.Proofs.YthblghfobnhoeaaGreatW.PrintMore
attribute [local go_sem] max2_int min2_int max_two min_two max_three min_three max_four min_four   -- for this text's walks alone
set_option linter.unusedVariables false
set_option linter.unusedSimpArgs false

/-! ### masterdiscref20_Encode: function 49 -/
mutual
def masterdiscref20_Encode.j0 : Nat → Bool → ByteArray → Int → Int → Int → Int → Int → Int → ByteArray → Option (ByteArray × Int)
 | 0, _, _, _, _, _, _, _, _, _ => none
 | k + 1, x18, x328000, x328001, x328002, x328003, x328004, x328005, x328006, x328007 => if x18 = true then (some ((⟨#[]⟩ : ByteArray), 1)) else ((masterdiscref20_Size.f k (x328000.size : Int) (x328007.size : Int)).bind fun t328 => (if t328 = 0 then (some ((⟨#[]⟩ : ByteArray), 7)) else ((masterdiscref16_Record.f k x328003 x328004).bind fun bt329 => ((masterdiscref20_fits.f x328001 4294967295).bind fun t331 => (if t331 = true then ((masterdiscref20_fits.f x328002 4294967295).bind fun t332 => (if t332 = true then ((masterdiscref20_fits.f x328005 255).bind fun t333 => (if t333 = true then ((masterdiscref20_fits.f x328006 65535).bind fun t334 => (if t334 = true then (masterdiscref20_Encode.j1 k t328 bt329.1 (bt329.2 != 0) x328000 x328001 x328002 x328003 x328004 x328005 x328006 x328007) else (masterdiscref20_Encode.j1 k t328 bt329.1 true x328000 x328001 x328002 x328003 x328004 x328005 x328006 x328007))) else (masterdiscref20_Encode.j1 k t328 bt329.1 true x328000 x328001 x328002 x328003 x328004 x328005 x328006 x328007))) else (masterdiscref20_Encode.j1 k t328 bt329.1 true x328000 x328001 x328002 x328003 x328004 x328005 x328006 x328007))) else (masterdiscref20_Encode.j1 k t328 bt329.1 true x328000 x328001 x328002 x328003 x328004 x328005 x328006 x328007))))))
def masterdiscref20_Encode.j1 : Nat → Int → ByteArray → Bool → ByteArray → Int → Int → Int → Int → Int → Int → ByteArray → Option (ByteArray × Int)
 | 0, _, _, _, _, _, _, _, _, _, _, _ => none
 | k + 1, x4, x5, x61, x328000, x328001, x328002, x328003, x328004, x328005, x328006, x328007 => if x61 = true then (some ((⟨#[]⟩ : ByteArray), 2)) else ((some (([(x4) % 256, 0] : List Int) : List Int)).bind fun y335 => ((masterdiscref20_both.f k x328001 4).bind fun t338 => (if (strOfNums y335).size + t338.size ≤ 9223372036854775807 then ((masterdiscref20_both.f k x328002 4).bind fun t339 => (if ((strOfNums y335) ++ t338).size + t339.size ≤ 9223372036854775807 then (if (((strOfNums y335) ++ t338) ++ t339).size + x5.size ≤ 9223372036854775807 then ((some (([(x328005) % 256, 0, 0] : List Int) : List Int)).bind fun y340 => (if ((((strOfNums y335) ++ t338) ++ t339) ++ x5).size + (strOfNums y340).size ≤ 9223372036854775807 then ((masterdiscref20_both.f k x328006 2).bind fun t343 => (if (((((strOfNums y335) ++ t338) ++ t339) ++ x5) ++ (strOfNums y340)).size + t343.size ≤ 9223372036854775807 then ((some (([((x328000.size : Int)) % 256] : List Int) : List Int)).bind fun y344 => (if ((((((strOfNums y335) ++ t338) ++ t339) ++ x5) ++ (strOfNums y340)) ++ t343).size + (strOfNums y344).size ≤ 9223372036854775807 then (if (((((((strOfNums y335) ++ t338) ++ t339) ++ x5) ++ (strOfNums y340)) ++ t343) ++ (strOfNums y344)).size + x328000.size ≤ 9223372036854775807 then (if ((x328000.size : Int) % 2) = 0 then (if ((((((((strOfNums y335) ++ t338) ++ t339) ++ x5) ++ (strOfNums y340)) ++ t343) ++ (strOfNums y344)) ++ x328000).size + 1 ≤ 9223372036854775807 then (if (((((((((strOfNums y335) ++ t338) ++ t339) ++ x5) ++ (strOfNums y340)) ++ t343) ++ (strOfNums y344)) ++ x328000) ++ (⟨#[0]⟩ : ByteArray)).size + x328007.size ≤ 9223372036854775807 then (some ((((((((((strOfNums y335) ++ t338) ++ t339) ++ x5) ++ (strOfNums y340)) ++ t343) ++ (strOfNums y344)) ++ x328000) ++ (⟨#[0]⟩ : ByteArray)) ++ x328007, 0)) else (none)) else (none)) else (if ((((((((strOfNums y335) ++ t338) ++ t339) ++ x5) ++ (strOfNums y340)) ++ t343) ++ (strOfNums y344)) ++ x328000).size + x328007.size ≤ 9223372036854775807 then (some (((((((((strOfNums y335) ++ t338) ++ t339) ++ x5) ++ (strOfNums y340)) ++ t343) ++ (strOfNums y344)) ++ x328000) ++ x328007, 0)) else (none))) else (none)) else (none))) else (none))) else (none))) else (none)) else (none))) else (none))))
end
def masterdiscref20_Encode.f (k : Nat) (a0_0 : ByteArray) (a0_1 : Int) (a0_2 : Int) (a0_3 : Int) (a0_4 : Int) (a0_5 : Int) (a0_6 : Int) (a0_7 : ByteArray) : Option (ByteArray × Int) := if (a0_0.size : Int) = 0 then (masterdiscref20_Encode.j0 k true a0_0 a0_1 a0_2 a0_3 a0_4 a0_5 a0_6 a0_7) else (masterdiscref20_Encode.j0 k (((a0_7.size : Int) % 2) == 1) a0_0 a0_1 a0_2 a0_3 a0_4 a0_5 a0_6 a0_7)
theorem masterdiscref20_Encode.mono_l : ∀ k, (∀ y0 y1 y2 y3 y4 y5 y6 y7 y8, LeO (masterdiscref20_Encode.j0 k y0 y1 y2 y3 y4 y5 y6 y7 y8) (masterdiscref20_Encode.j0 (k + 1) y0 y1 y2 y3 y4 y5 y6 y7 y8)) ∧ (∀ y0 y1 y2 y3 y4 y5 y6 y7 y8 y9 y10, LeO (masterdiscref20_Encode.j1 k y0 y1 y2 y3 y4 y5 y6 y7 y8 y9 y10) (masterdiscref20_Encode.j1 (k + 1) y0 y1 y2 y3 y4 y5 y6 y7 y8 y9 y10))
 | 0 => ⟨fun _ _ _ _ _ _ _ _ _ r h => by simp [masterdiscref20_Encode.j0] at h, fun _ _ _ _ _ _ _ _ _ _ _ r h => by simp [masterdiscref20_Encode.j1] at h⟩
 | k + 1 => by
  obtain ⟨ih0, ih1⟩ := masterdiscref20_Encode.mono_l k
  refine ⟨?_, ?_⟩
  ·intro y0 y1 y2 y3 y4 y5 y6 y7 y8
   unfold masterdiscref20_Encode.j0
   repeat' first
   | (with_reducible exact ih0 _ _ _ _ _ _ _ _ _)
   | (with_reducible exact ih1 _ _ _ _ _ _ _ _ _ _ _)
   | (with_reducible exact masterdiscref16_Record.mono _ _ _)
   | (with_reducible exact masterdiscref20_Size.mono _ _ _)
   | (with_reducible exact masterdiscref20_both.mono _ _ _)
   | (with_reducible exact LeO.refl _)
   | (with_reducible exact LeO.none _)
   | (with_reducible refine LeO.ite ?_ ?_)
   | (with_reducible refine LeO.bind ?_ (fun _ => ?_))
   | exact ih0 _ _ _ _ _ _ _ _ _
   | exact ih1 _ _ _ _ _ _ _ _ _ _ _
   | exact masterdiscref16_Record.mono _ _ _
   | exact masterdiscref20_Size.mono _ _ _
   | exact masterdiscref20_both.mono _ _ _
   | exact LeO.none _
   | refine LeO.ite ?_ ?_
   | refine LeO.bind ?_ (fun _ => ?_)
  ·intro y0 y1 y2 y3 y4 y5 y6 y7 y8 y9 y10
   unfold masterdiscref20_Encode.j1
   repeat' first
   | (with_reducible exact ih0 _ _ _ _ _ _ _ _ _)
   | (with_reducible exact ih1 _ _ _ _ _ _ _ _ _ _ _)
   | (with_reducible exact masterdiscref16_Record.mono _ _ _)
   | (with_reducible exact masterdiscref20_Size.mono _ _ _)
   | (with_reducible exact masterdiscref20_both.mono _ _ _)
   | (with_reducible exact LeO.refl _)
   | (with_reducible exact LeO.none _)
   | (with_reducible refine LeO.ite ?_ ?_)
   | (with_reducible refine LeO.bind ?_ (fun _ => ?_))
   | exact ih0 _ _ _ _ _ _ _ _ _
   | exact ih1 _ _ _ _ _ _ _ _ _ _ _
   | exact masterdiscref16_Record.mono _ _ _
   | exact masterdiscref20_Size.mono _ _ _
   | exact masterdiscref20_both.mono _ _ _
   | exact LeO.none _
   | refine LeO.ite ?_ ?_
   | refine LeO.bind ?_ (fun _ => ?_)
theorem masterdiscref20_Encode.mono : ∀ a0 a1 a2 a3 a4 a5 a6 a7 k, LeO (masterdiscref20_Encode.f k a0 a1 a2 a3 a4 a5 a6 a7) (masterdiscref20_Encode.f (k + 1) a0 a1 a2 a3 a4 a5 a6 a7) := by
 intro a0 a1 a2 a3 a4 a5 a6 a7 k
 obtain ⟨ih0, ih1⟩ := masterdiscref20_Encode.mono_l k
 unfold masterdiscref20_Encode.f
 repeat' first
   | (with_reducible exact ih0 _ _ _ _ _ _ _ _ _)
   | (with_reducible exact ih1 _ _ _ _ _ _ _ _ _ _ _)
   | (with_reducible exact masterdiscref16_Record.mono _ _ _)
   | (with_reducible exact masterdiscref20_Size.mono _ _ _)
   | (with_reducible exact masterdiscref20_both.mono _ _ _)
   | (with_reducible exact LeO.refl _)
   | (with_reducible exact LeO.none _)
   | (with_reducible refine LeO.ite ?_ ?_)
   | (with_reducible refine LeO.bind ?_ (fun _ => ?_))
   | exact ih0 _ _ _ _ _ _ _ _ _
   | exact ih1 _ _ _ _ _ _ _ _ _ _ _
   | exact masterdiscref16_Record.mono _ _ _
   | exact masterdiscref20_Size.mono _ _ _
   | exact masterdiscref20_both.mono _ _ _
   | exact LeO.none _
   | refine LeO.ite ?_ ?_
   | refine LeO.bind ?_ (fun _ => ?_)
end Go.Proofs.YthblghfobnhoeaaGreat.A
namespace Go.Proofs.YthblghfobnhoeaaGreat.A
open Go.RowKit Go.Proofs.YthblghfobnhoeaaGreat.H Go.Proofs.YthblghfobnhoeaaGreatW.PrintWords Go.Proofs.YthblghfobnhoeaaGreatW.PrintLast Go.Proofs.YthblghfobnhoeaaGreatW.PrintMore
attribute [local go_sem] max2_int min2_int max_two min_two max_three min_three max_four min_four   -- for this text's walks alone
set_option linter.unusedVariables false
set_option linter.unusedSimpArgs false

/-! ### masterdiscref21_Encode: function 25 -/
mutual
def masterdiscref21_Encode.l0 : Nat → List (S45) → List ByteArray → List Int → Int → Option (ByteArray × Int)
  | 0, _, _, _, _ => none
  | k + 1, x0, x4, x5, x6 => if x6 < (x0.length : Int) then (if 0 ≤ x6 then ((masterdiscref20_Encode.f k ((rd_T45 x0 x6).f0) ((rd_T45 x0 x6).f1) ((rd_T45 x0 x6).f2) ((rd_T45 x0 x6).f3) ((rd_T45 x0 x6).f4) ((rd_T45 x0 x6).f5) ((rd_T45 x0 x6).f6) ((rd_T45 x0 x6).f7)).bind fun bt354 => (if bt354.2 = 0 then (if x4.length < 8796093022208 then (if x5.length < 17592186044416 then (masterdiscref21_Encode.l0 k x0 (x4 ++ [bt354.1]) (x5 ++ [(bt354.1.size : Int)]) (wrap64 (x6 + 1))) else (none)) else (none)) else (some ((⟨#[]⟩ : ByteArray), bt354.2)))) else (none)) else ((masterdiscref21_Offsets.f k x5).bind fun t362 => (masterdiscref21_Encode.l1 k x4 x5 t362 (⟨#[]⟩ : ByteArray) 0))
def masterdiscref21_Encode.l1 : Nat → List ByteArray → List Int → List Int → ByteArray → Int → Option (ByteArray × Int)
  | 0, _, _, _, _, _ => none
  | k + 1, x4, x5, x9, x10, x11 => if x11 < (x4.length : Int) then (if 0 ≤ x11 then (if x11 < (x9.length : Int) then ((masterdiscref01_Repeat.f k 0 (wrap64 ((rd x9 x11) - (x10.size : Int)))).bind fun t366 => (if x10.size + t366.size ≤ 9223372036854775807 then (if (x10 ++ t366).size + (rdOf ByteArray.empty x4 x11).size ≤ 9223372036854775807 then (masterdiscref21_Encode.l1 k x4 x5 x9 ((x10 ++ t366) ++ (rdOf ByteArray.empty x4 x11)) (wrap64 (x11 + 1))) else (none)) else (none))) else (none)) else (none)) else ((masterdiscref21_Blocks.f k x5).bind fun t368 => ((masterdiscref01_Repeat.f k 0 (wrap64 ((wrap64 (t368 * 2048)) - (x10.size : Int)))).bind fun t369 => (if x10.size + t369.size ≤ 9223372036854775807 then (some (x10 ++ t369, 0)) else (none))))
end
def masterdiscref21_Encode.f (k : Nat) (l0 : List (S45)) : Option (ByteArray × Int) := if (l0.length : Int) > 1024 then (some ((⟨#[]⟩ : ByteArray), 7)) else (masterdiscref21_Encode.l0 k l0 (([] : List ByteArray)) (([] : List Int)) 0)
/-! ### masterdisclaw21_DirectoryEncodes: function 6 -/
def masterdisclaw21_DirectoryEncodes.j0 : Nat → List (S45) → Bool → Option (Bool)
  | 0, _, _ => none
  | k + 1, x0, x16 => if x16 = true then (some true) else ((directory_Encode.f k x0).bind fun bt372 => ((masterdiscref21_Encode.f k x0).bind fun bt374 => (if bt372.1.toList = bt374.1.toList then (some (bt372.2 == bt374.2)) else (some false))))
def masterdisclaw21_DirectoryEncodes.f (k : Nat) (l0 : List (S45)) : Option (Bool) := (masterdisclaw21_awake.f).bind fun t370 => (if t370 = true then ((masterdiscref21_Small.f k l0 60).bind fun t371 => (if t371 = true then (masterdisclaw21_DirectoryEncodes.j0 k l0 false) else (masterdisclaw21_DirectoryEncodes.j0 k l0 (decide ((l0.length : Int) ≤ 1024))))) else (some false))
end Go.Proofs.YthblghfobnhoeaaGreat.A
namespace Go.Proofs.YthblghfobnhoeaaGreat.A
open Go.RowKit Go.Proofs.YthblghfobnhoeaaGreat.H Go.Proofs.YthblghfobnhoeaaGreatW.PrintWords Go.Proofs.YthblghfobnhoeaaGreatW.PrintLast Go.Proofs.YthblghfobnhoeaaGreatW.PrintMore
attribute [local go_sem] max2_int min2_int max_two min_two max_three min_three max_four min_four   -- for this text's walks alone
set_option linter.unusedVariables false
set_option linter.unusedSimpArgs false

/-! ### masterdisclaw21_DirectoryReturns: function 7 -/
def masterdisclaw21_DirectoryReturns.l0 : Nat → List (S45) → Int → ByteArray → List Int → List (S45) → Int → Int → Option (Bool)
 | 0, _, _, _, _, _, _, _ => none
 | k + 1, x0, x1, x5, x7, x27, x28, x29 => if x29 < x28 then (if 0 ≤ x29 then (if x29 < (x27.length : Int) then ((masterdiscref20_Size.f k (((rd_T45 x27 x29).f0).size : Int) (((rd_T45 x27 x29).f7).size : Int)).bind fun t382 => (if x7.length < 17592186044416 then (masterdisclaw21_DirectoryReturns.l0 k x0 x1 x5 (x7 ++ [t382]) x27 x28 (wrap64 (x29 + 1))) else (none))) else (none)) else (none)) else ((strings_Repeat.f (⟨#[0]⟩ : ByteArray) (wrap64 ((wrap64 (Int.tmod x1 3)) * 2048))).bind fun t386 => (if x5.size + t386.size ≤ 9223372036854775807 then ((directory_Decode.f k (x5 ++ t386)).bind fun bt387 => (if bt387.2.2 = 0 then (if ((x5.size : Int) % 2048) = 0 then ((directory_Blocks.f k x7).bind fun t394 => (if (x5.size : Int) = (wrap64 (t394 * 2048)) then ((masterdiscref21_Same.f k bt387.1 x0).bind fun t395 => (if t395 = true then ((directory_Offsets.f k x7).bind fun t396 => ((slices_Equal_int_int.f k bt387.2.1 t396).bind fun t399 => (some t399))) else (some false))) else (some false))) else (some false)) else (some false))) else (none)))
def masterdisclaw21_DirectoryReturns.f (k : Nat) (l0 : List (S45)) (a1 : Int) : Option (Bool) := (masterdisclaw21_awake.f).bind fun t376 => (if t376 = true then ((masterdiscref21_Small.f k l0 60).bind fun t377 => (if t377 = true then ((directory_Encode.f k l0).bind fun bt378 => (if bt378.2 = 0 then (masterdisclaw21_DirectoryReturns.l0 k l0 a1 bt378.1 ([] : List Int) l0 (l0.length : Int) 0) else (some (bt378.1.toList == ([] : List UInt8))))) else (some true))) else (some false))
set_option maxHeartbeats 8000000 in
set_option maxRecDepth 100000 in
theorem masterdisclaw21_DirectoryReturns.calls (k : Nat) (A0 : Option Addr) (c0 : Nat) (l0 : List (S45)) (a1 : Int) (r : Bool) (w : World) (hr0 : Kd.C k45 w A0 l0.length l0) (hc0 : l0.length ≤ c0) (h : masterdisclaw21_DirectoryReturns.f k l0 a1 = some r) :
  Calls Tryz.prog 7 #[.slice A0 l0.length c0, .int .u8 a1] w fun e w' => e = .returned (.bool r) ∧ Below w.heap.size w w' := by
 have hu45 := Tryz.underlying45
 have HR0 := Aside0.mk hr0
 have HC0 := Aside0.mk hc0
 clear hr0 hc0
 have HB := Aside0.mk (Below.refl w.heap.size w)
 have H : ((masterdisclaw21_awake.f).bind fun t376 => (if t376 = true then ((masterdiscref21_Small.f k l0 60).bind fun t377 => (if t377 = true then ((directory_Encode.f k l0).bind fun bt378 => (if bt378.2 = 0 then (masterdisclaw21_DirectoryReturns.l0 k l0 a1 bt378.1 ([] : List Int) l0 (l0.length : Int) 0) else (some (bt378.1.toList == ([] : List UInt8))))) else (some true))) else (some false))) = some r := h
 clear h
 replace H := Option.bind_eq_some_iff.mp H
 obtain ⟨t376, A30, H⟩ := H
 replace H : (if t376 = true then ((masterdiscref21_Small.f k l0 60).bind fun t377 => (if t377 = true then ((directory_Encode.f k l0).bind fun bt378 => (if bt378.2 = 0 then (masterdisclaw21_DirectoryReturns.l0 k l0 a1 bt378.1 ([] : List Int) l0 (l0.length : Int) 0) else (some (bt378.1.toList == ([] : List UInt8))))) else (some true))) else (some false)) = some r := H
 have A3 := Aside0.mk A30
 clear A30
 by_cases c4 : t376 = true
 ·subst c4
  have H1 : ((masterdiscref21_Small.f k l0 60).bind fun t377 => (if t377 = true then ((directory_Encode.f k l0).bind fun bt378 => (if bt378.2 = 0 then (masterdisclaw21_DirectoryReturns.l0 k l0 a1 bt378.1 ([] : List Int) l0 (l0.length : Int) 0) else (some (bt378.1.toList == ([] : List UInt8))))) else (some true))) = some r := by rw [if_pos rfl] at H; exact H
  clear H
  have H := H1
  clear H1
  replace H := Option.bind_eq_some_iff.mp H
  obtain ⟨t377, A50, H⟩ := H
  replace H : (if t377 = true then ((directory_Encode.f k l0).bind fun bt378 => (if bt378.2 = 0 then (masterdisclaw21_DirectoryReturns.l0 k l0 a1 bt378.1 ([] : List Int) l0 (l0.length : Int) 0) else (some (bt378.1.toList == ([] : List UInt8))))) else (some true)) = some r := H
  have A5 := Aside0.mk A50
  clear A50
  by_cases c6 : t377 = true
  ·subst c6
   have H1 : ((directory_Encode.f k l0).bind fun bt378 => (if bt378.2 = 0 then (masterdisclaw21_DirectoryReturns.l0 k l0 a1 bt378.1 ([] : List Int) l0 (l0.length : Int) 0) else (some (bt378.1.toList == ([] : List UInt8))))) = some r := by rw [if_pos rfl] at H; exact H
   clear H
   have H := H1
   clear H1
   replace H := Option.bind_eq_some_iff.mp H
   obtain ⟨⟨t378, t379⟩, A70, H⟩ := H
   replace H : (if t379 = 0 then (masterdisclaw21_DirectoryReturns.l0 k l0 a1 t378 ([] : List Int) l0 (l0.length : Int) 0) else (some (t378.toList == ([] : List UInt8)))) = some r := H
   have A7 := Aside0.mk A70
   clear A70
   by_cases c8 : t379 = 0
   ·rw [if_pos c8] at H
    have c8b0 : (t379 == 0) = true := beq_iff_eq.mpr c8
    have c8b1 : (t379 != 0) = false := bne_eq_false_iff_eq.mpr c8
    clear c8
    have H' := Aside0.mk H
    clear H
    go_enter Tryz.func7, Tryz.ntmps7
    go_wp2_with (first | ((with_reducible refine gate_callee (f := 9) rfl ?_); refine gL (some 13) Tryz.func9 #[] ?_; (with_reducible refine (masterdisclaw21_awake.calls  true _ A3.out).mono ?_); rintro e w9 ⟨rfl, hb⟩; refine ⟨_, rfl, ?_⟩; have n0_ := Aside0.mk (below_step (uB HB.out) hb); clear HB; have HB := n0_; clear n0_; (try clear hb); (try clear hb2); (try clear hk); (try clear hi)) | ((with_reducible refine gate_callee (f := 13) rfl ?_); refine gL (some 16) Tryz.func13 #[.slice A0 l0.length c0, .int .i64 60] ?_; (with_reducible refine (masterdiscref21_Small.calls k _ _ l0 60 true _ ?side1 ?side2 A5.out).mono ?_); (case side1 => repeat (first | exact (Kd.C_below HR0.out HB.out) | (with_reducible refine Kd.C_alloc ?_ _) | (with_reducible refine Kd.C_drewN ?_ _) | (with_reducible refine Kd.C_drew ?_))); (case side2 => exact HC0.out); rintro e w' ⟨rfl, ⟨nd, rfl⟩⟩; refine ⟨_, rfl, ?_⟩) | ((with_reducible refine gate_callee (f := 24) rfl ?_); refine gL (some 20) Tryz.func24 #[.slice A0 l0.length c0] ?_; (with_reducible refine (directory_Encode.calls k _ _ l0 t378 t379 _ ?side1 ?side2 A7.out).mono ?_); (case side1 => repeat (first | exact (Kd.C_below HR0.out (uB HB.out)) | (with_reducible refine Kd.C_alloc ?_ _) | (with_reducible refine Kd.C_drewN ?_ _) | (with_reducible refine Kd.C_drew ?_))); (case side2 => exact HC0.out); rintro e w10 ⟨rfl, hb⟩; refine ⟨_, rfl, ?_⟩; have n0_ := Aside0.mk (below_step (uB HB.out) hb); clear HB; have HB := n0_; clear n0_; (try clear hb); (try clear hb2); (try clear hk); (try clear hi)))
    go_loopg [7, 29] k (fun kq v7 v29 w' => ∃ (x7_1 : List Int) (x29_1 : Int), v29 = .int .i64 x29_1 ∧ Aside0 (masterdisclaw21_DirectoryReturns.l0 kq l0 a1 t378 x7_1 l0 (l0.length : Int) x29_1 = some r) ∧ Aside0 (kq ≤ k) ∧ Aside0 (Kd.R (Kd.int .i64) 3 w' w.heap.size (fun _ => True) v7 x7_1) ∧ Aside0 (Below w.heap.size w w'))
    case atStart => exact ⟨(([] : List Int)), (0), (by first | rfl | (simp; done) | (simp [*]; done)), H', ⟨Nat.le_refl _⟩, ⟨by first | exact Kd.R_nil _ _ _ _ _ | exact Kd.N_nil _ _ _ _ _ | exact Kd.V_nil _ _ _ _ _ | exact Kd.Q_nil _ _ _ _ _ | exact Kd.S_nil _ _ _ _ _⟩, ⟨uB HB.out⟩⟩
    case round =>
     clear H'
     try clear c1
     try clear c2
     try clear p2
     try clear c4
     try clear c6
     try clear c7
     try clear c8
     try clear c8b0
     try clear c8b1
     try clear c9
     obtain ⟨x7_1, x29_1, rfl, HA, HK1, HO_7, HB⟩ := hrel
     cases gk with
     | zero => exact absurd HA.out (by simp [masterdisclaw21_DirectoryReturns.l0])
     | succ k1 =>
      have H := HA.out
      clear HA
      simp only [masterdisclaw21_DirectoryReturns.l0] at H
      by_cases c11 : x29_1 < (l0.length : Int)
      ·rw [if_pos c11] at H
       have c11b0 : decide (x29_1 < (l0.length : Int)) = true := decide_eq_true c11
       clear c11
       by_cases c12 : 0 ≤ x29_1
       rotate_left
       ·rw [if_neg c12] at H
        exact absurd H (by simp)
       rw [if_pos c12] at H
       have c12b0 : decide (0 ≤ x29_1) = true := decide_eq_true c12
       clear c12
       by_cases c13 : x29_1 < (l0.length : Int)
       rotate_left
       ·rw [if_neg c13] at H
        exact absurd H (by simp)
       rw [if_pos c13] at H
       have c13b0 : decide (x29_1 < (l0.length : Int)) = true := decide_eq_true c13
       clear c13
       replace H := Option.bind_eq_some_iff.mp H
       obtain ⟨t382, A140, H⟩ := H
       replace H : (if x7_1.length < 17592186044416 then (masterdisclaw21_DirectoryReturns.l0 k1 l0 a1 t378 (x7_1 ++ [t382]) l0 (l0.length : Int) (wrap64 (x29_1 + 1))) else (none)) = some r := H
       have A14 := Aside0.mk A140
       clear A140
       by_cases c15 : x7_1.length < 17592186044416
       rotate_left
       ·rw [if_neg c15] at H
        exact absurd H (by simp)
       rw [if_pos c15] at H
       have LMc15 := Aside0.mk c15
       clear c15
       obtain ⟨y383, hy383⟩ : ∃ y_ : List Int, y_ = (x7_1 ++ [t382]) := ⟨_, rfl⟩
       replace H : (masterdisclaw21_DirectoryReturns.l0 k1 l0 a1 t378 y383 l0 (l0.length : Int) (wrap64 (x29_1 + 1))) = some r := by first | (rw [hy383]; with_reducible exact H) | (have H2_ := (Option.bind_some _ _).symm.trans H; rw [hy383]; with_reducible exact H2_) | (have H2_ := (Option.bind_some _ _).symm.trans H; with_reducible exact H2_) | with_reducible exact H | (rw [hy383]; exact H) | exact H
       have Ny383 := Aside0.mk hy383
       clear hy383
       have H' := Aside0.mk H
       clear H
       have p380 : 0 ≤ (x29_1 : Int) := of_decide_eq_true (by first | (with_reducible assumption) | assumption)
       have q380 : x29_1 < (l0.length : Int) := of_decide_eq_true (by first | (with_reducible assumption) | assumption)
       obtain ⟨ad380, e380, hx380_0, hx380_1, hx380_2, hx380_3, hx380_4, hx380_5, hx380_6, hx380_7⟩ := at_T45 HR0.out x29_1 p380 q380
       cases e380
       replace hx380_0 := (HB.out.cell (World.block_lt_of_cell? w _ hx380_0)).trans hx380_0
       replace hx380_1 := (HB.out.cell (World.block_lt_of_cell? w _ hx380_1)).trans hx380_1
       replace hx380_2 := (HB.out.cell (World.block_lt_of_cell? w _ hx380_2)).trans hx380_2
       replace hx380_3 := (HB.out.cell (World.block_lt_of_cell? w _ hx380_3)).trans hx380_3
       replace hx380_4 := (HB.out.cell (World.block_lt_of_cell? w _ hx380_4)).trans hx380_4
       replace hx380_5 := (HB.out.cell (World.block_lt_of_cell? w _ hx380_5)).trans hx380_5
       replace hx380_6 := (HB.out.cell (World.block_lt_of_cell? w _ hx380_6)).trans hx380_6
       replace hx380_7 := (HB.out.cell (World.block_lt_of_cell? w _ hx380_7)).trans hx380_7
       replace p380 := eq_true p380
       replace q380 := eq_true q380
       go_wp2_with (first | ((with_reducible refine gate_dst (N := 9) rfl ?_); (try (refine gate_guard (by rfl) ?_; dsimp only)); refine box_event ?hg (N := 9) ?hd (cs := #[.string (⟨#[]⟩ : ByteArray), .int .i64 0, .int .i64 0, .int .i64 0, .int .i64 0, .int .i64 0, .int .i64 0, .string (⟨#[]⟩ : ByteArray)]) (t := 45) ?hr ?_; (case hd => rfl); (case hg => rfl); (case hr => first | (go_simp; done) | (go_simp; rfl)); intro gb381 hg w16 hbox hb; have n0_ := Aside0.mk (Kd.R_below (uR HO_7.out) hb); have n1_ := Aside0.mk (below_step (uB HB.out) hb); have n2_ := Aside0.mk (hbox); have n3_ := Aside0.mk ((by rw [hg]; exact (below_size (uB HB.out)) : w.heap.size ≤ gb381)); have n4_ := Aside0.mk ((by rw [hg]; exact (below_size (uB HB.out)) : w.heap.size ≤ gb381)); clear HO_7; clear HB; have HO_7 := n0_; have HB := n1_; have BK381 := n2_; have GW381 := n3_; have GE381 := n4_; clear n0_ n1_ n2_ n3_ n4_; clear hb hbox hg; have hcz17_0 : w16.cell? ⟨gb381, 0, none⟩ = some (.string (⟨#[]⟩ : ByteArray)) := (blk_cell BK381.out 0).trans rfl; have hcz17_1 : w16.cell? ⟨gb381, 1, none⟩ = some (.int .i64 0) := (blk_cell BK381.out 1).trans rfl; have hcz17_2 : w16.cell? ⟨gb381, 2, none⟩ = some (.int .i64 0) := (blk_cell BK381.out 2).trans rfl; have hcz17_3 : w16.cell? ⟨gb381, 3, none⟩ = some (.int .i64 0) := (blk_cell BK381.out 3).trans rfl; have hcz17_4 : w16.cell? ⟨gb381, 4, none⟩ = some (.int .i64 0) := (blk_cell BK381.out 4).trans rfl; have hcz17_5 : w16.cell? ⟨gb381, 5, none⟩ = some (.int .i64 0) := (blk_cell BK381.out 5).trans rfl; have hcz17_6 : w16.cell? ⟨gb381, 6, none⟩ = some (.int .i64 0) := (blk_cell BK381.out 6).trans rfl; have hcz17_7 : w16.cell? ⟨gb381, 7, none⟩ = some (.string (⟨#[]⟩ : ByteArray)) := (blk_cell BK381.out 7).trans rfl; have hfz17_0 := blk_frozen BK381.out 0; have hfz17_1 := blk_frozen BK381.out 1; have hfz17_2 := blk_frozen BK381.out 2; have hfz17_3 := blk_frozen BK381.out 3; have hfz17_4 := blk_frozen BK381.out 4; have hfz17_5 := blk_frozen BK381.out 5; have hfz17_6 := blk_frozen BK381.out 6; have hfz17_7 := blk_frozen BK381.out 7) | ((with_reducible refine gate_callee (f := 26) rfl ?_); refine gL (some 40) Tryz.func26 #[.int .i64 (((rd_T45 l0 x29_1).f0).size : Int), .int .i64 (((rd_T45 l0 x29_1).f7).size : Int)] ?_; (with_reducible refine (masterdiscref20_Size.calls k1 (((rd_T45 l0 x29_1).f0).size : Int) (((rd_T45 l0 x29_1).f7).size : Int) t382 _ A14.out).mono ?_); rintro e w' ⟨rfl, ⟨nd, rfl⟩⟩; refine ⟨_, rfl, ?_⟩) | ((with_reducible refine gate_builtin (b := .append) (xs := #[.tmp 33, .tmp 41]) rfl ?_); (try (refine gate_guard (by rfl) ?_; dsimp only)); at_builtin; refine Kd.R_append (Kd.int .i64) (w0 := w) w.heap.size rfl (.tmp 33) (.tmp 41) 33 3 (.int .i64 0) 8 rfl Tryz.underlying33 info3 rfl (by decide) (by omega) u7 x7_1 t382 [.int .i64 t382] (fun _ => True) (fun _ => False) rfl (by first | (go_simp; done) | (go_simp; rfl)) ?aP (fun _ hk => hk.elim) ?aF ?aO ?aB ?aS ?aL ?_; (case aP => exact rfl); (case aB => exact (by repeat (first | (with_reducible first | exact HB.out | apply below_alloc | apply pw_below_drewN | apply below_drew1 | refine below_set ?_ GE381.out) | exact HB.out))); (case aF => exact (fun _ _ => trivial)); (case aO => exact (by (with_reducible repeat (first | apply Kd.R_alloc | apply Kd.R_drewN | apply Kd.R_drew)); exact Kd.R_mono (Kd.R_far (p := ⟨gb381, 7, none⟩) (Kd.R_far (p := ⟨gb381, 6, none⟩) (Kd.R_far (p := ⟨gb381, 5, none⟩) (Kd.R_far (p := ⟨gb381, 4, none⟩) (Kd.R_far (p := ⟨gb381, 3, none⟩) (Kd.R_far (p := ⟨gb381, 2, none⟩) (Kd.R_far (p := ⟨gb381, 1, none⟩) (Kd.R_far (p := ⟨gb381, 0, none⟩) (Kd.R_types HO_7.out BK381.out (by decide)) (fun _ hk => hk.2) (.string ((rd_T45 l0 x29_1).f0))) (fun _ hk => hk.2) (.int .i64 ((rd_T45 l0 x29_1).f1))) (fun _ hk => hk.2) (.int .i64 ((rd_T45 l0 x29_1).f2))) (fun _ hk => hk.2) (.int .i64 ((rd_T45 l0 x29_1).f3))) (fun _ hk => hk.2) (.int .i64 ((rd_T45 l0 x29_1).f4))) (fun _ hk => hk.2) (.int .i64 ((rd_T45 l0 x29_1).f5))) (fun _ hk => hk.2) (.int .i64 ((rd_T45 l0 x29_1).f6))) (fun _ hk => hk.2) (.string ((rd_T45 l0 x29_1).f7))) (fun _ hk => trivial))); (case aS => exact (below_size (by repeat (first | (with_reducible first | exact HB.out | apply below_alloc | apply pw_below_drewN | apply below_drew1 | refine below_set ?_ GE381.out) | exact HB.out)))); (case aL => have := LMc15.out; omega); intro v384 w18 ho hb hg hat; rw [← Ny383.out] at ho; have n0_ := Aside0.mk (blk_grown (g := gb381) (o := .cells #[.string ((rd_T45 l0 x29_1).f0), .int .i64 ((rd_T45 l0 x29_1).f1), .int .i64 ((rd_T45 l0 x29_1).f2), .int .i64 ((rd_T45 l0 x29_1).f3), .int .i64 ((rd_T45 l0 x29_1).f4), .int .i64 ((rd_T45 l0 x29_1).f5), .int .i64 ((rd_T45 l0 x29_1).f6), .string ((rd_T45 l0 x29_1).f7)] 45 (0, 0)) (by (with_reducible repeat (first | refine blk_drewN ?_ _ | refine blk_drew ?_ | refine blk_alloc ?_ _)); refine blk_put (cs := #[.string ((rd_T45 l0 x29_1).f0), .int .i64 ((rd_T45 l0 x29_1).f1), .int .i64 ((rd_T45 l0 x29_1).f2), .int .i64 ((rd_T45 l0 x29_1).f3), .int .i64 ((rd_T45 l0 x29_1).f4), .int .i64 ((rd_T45 l0 x29_1).f5), .int .i64 ((rd_T45 l0 x29_1).f6), .string (⟨#[]⟩ : ByteArray)]) ?_ 7 _ rfl; (with_reducible repeat (first | refine blk_drewN ?_ _ | refine blk_drew ?_ | refine blk_alloc ?_ _)); refine blk_put (cs := #[.string ((rd_T45 l0 x29_1).f0), .int .i64 ((rd_T45 l0 x29_1).f1), .int .i64 ((rd_T45 l0 x29_1).f2), .int .i64 ((rd_T45 l0 x29_1).f3), .int .i64 ((rd_T45 l0 x29_1).f4), .int .i64 ((rd_T45 l0 x29_1).f5), .int .i64 0, .string (⟨#[]⟩ : ByteArray)]) ?_ 6 _ rfl; (with_reducible repeat (first | refine blk_drewN ?_ _ | refine blk_drew ?_ | refine blk_alloc ?_ _)); refine blk_put (cs := #[.string ((rd_T45 l0 x29_1).f0), .int .i64 ((rd_T45 l0 x29_1).f1), .int .i64 ((rd_T45 l0 x29_1).f2), .int .i64 ((rd_T45 l0 x29_1).f3), .int .i64 ((rd_T45 l0 x29_1).f4), .int .i64 0, .int .i64 0, .string (⟨#[]⟩ : ByteArray)]) ?_ 5 _ rfl; (with_reducible repeat (first | refine blk_drewN ?_ _ | refine blk_drew ?_ | refine blk_alloc ?_ _)); refine blk_put (cs := #[.string ((rd_T45 l0 x29_1).f0), .int .i64 ((rd_T45 l0 x29_1).f1), .int .i64 ((rd_T45 l0 x29_1).f2), .int .i64 ((rd_T45 l0 x29_1).f3), .int .i64 0, .int .i64 0, .int .i64 0, .string (⟨#[]⟩ : ByteArray)]) ?_ 4 _ rfl; (with_reducible repeat (first | refine blk_drewN ?_ _ | refine blk_drew ?_ | refine blk_alloc ?_ _)); refine blk_put (cs := #[.string ((rd_T45 l0 x29_1).f0), .int .i64 ((rd_T45 l0 x29_1).f1), .int .i64 ((rd_T45 l0 x29_1).f2), .int .i64 0, .int .i64 0, .int .i64 0, .int .i64 0, .string (⟨#[]⟩ : ByteArray)]) ?_ 3 _ rfl; (with_reducible repeat (first | refine blk_drewN ?_ _ | refine blk_drew ?_ | refine blk_alloc ?_ _)); refine blk_put (cs := #[.string ((rd_T45 l0 x29_1).f0), .int .i64 ((rd_T45 l0 x29_1).f1), .int .i64 0, .int .i64 0, .int .i64 0, .int .i64 0, .int .i64 0, .string (⟨#[]⟩ : ByteArray)]) ?_ 2 _ rfl; (with_reducible repeat (first | refine blk_drewN ?_ _ | refine blk_drew ?_ | refine blk_alloc ?_ _)); refine blk_put (cs := #[.string ((rd_T45 l0 x29_1).f0), .int .i64 0, .int .i64 0, .int .i64 0, .int .i64 0, .int .i64 0, .int .i64 0, .string (⟨#[]⟩ : ByteArray)]) ?_ 1 _ rfl; (with_reducible repeat (first | refine blk_drewN ?_ _ | refine blk_drew ?_ | refine blk_alloc ?_ _)); refine blk_put (cs := #[.string (⟨#[]⟩ : ByteArray), .int .i64 0, .int .i64 0, .int .i64 0, .int .i64 0, .int .i64 0, .int .i64 0, .string (⟨#[]⟩ : ByteArray)]) ?_ 0 _ rfl; (with_reducible repeat (first | refine blk_drewN ?_ _ | refine blk_drew ?_ | refine blk_alloc ?_ _)); exact BK381.out) hg (Kd.R_ne HO_7.out BK381.out (by decide))); have n1_ := Aside0.mk (hb); have n2_ := Aside0.mk (ho); clear BK381; clear HB; clear HO_7; have BK381 := n0_; have HB := n1_; have HO385 := n2_; clear n0_ n1_ n2_; clear ho hb hg hat))
       go_roundg k1
       case measure => have := HK1.out; omega
       case rel => exact ⟨(y383), (wrap64 (x29_1 + 1)), (by first | rfl | (simp; done) | (simp [*]; done)), H', ⟨by have := HK1.out; omega⟩, ⟨uR HO385.out⟩, ⟨by repeat (first | (with_reducible first | exact HB.out | apply below_alloc | apply pw_below_drewN | apply below_drew1 | refine below_set ?_ GE381.out) | exact HB.out)⟩⟩
      ·rw [if_neg c11] at H
       have c11b0 : decide (x29_1 < (l0.length : Int)) = false := decide_eq_false c11
       clear c11
       replace H := Option.bind_eq_some_iff.mp H
       obtain ⟨t386, A190, H⟩ := H
       replace H : (if t378.size + t386.size ≤ 9223372036854775807 then ((directory_Decode.f k1 (t378 ++ t386)).bind fun bt387 => (if bt387.2.2 = 0 then (if ((t378.size : Int) % 2048) = 0 then ((directory_Blocks.f k1 x7_1).bind fun t394 => (if (t378.size : Int) = (wrap64 (t394 * 2048)) then ((masterdiscref21_Same.f k1 bt387.1 l0).bind fun t395 => (if t395 = true then ((directory_Offsets.f k1 x7_1).bind fun t396 => ((slices_Equal_int_int.f k1 bt387.2.1 t396).bind fun t399 => (some t399))) else (some false))) else (some false))) else (some false)) else (some false))) else (none)) = some r := H
       have A19 := Aside0.mk A190
       clear A190
       by_cases c20 : t378.size + t386.size ≤ 9223372036854775807
       rotate_left
       ·rw [if_neg c20] at H
        exact absurd H (by simp)
       rw [if_pos c20] at H
       have c20b0 := eq_true c20
       have c20b1 : decide (t378.size + t386.size ≤ 9223372036854775807) = true := decide_eq_true c20
       try have c20b2 : (9223372036854775807 < t378.size + t386.size) = False := eq_false (Nat.not_lt.2 c20)
       replace H := Option.bind_eq_some_iff.mp H
       obtain ⟨⟨t387, t388, t389⟩, A210, H⟩ := H
       replace H : (if t389 = 0 then (if ((t378.size : Int) % 2048) = 0 then ((directory_Blocks.f k1 x7_1).bind fun t394 => (if (t378.size : Int) = (wrap64 (t394 * 2048)) then ((masterdiscref21_Same.f k1 t387 l0).bind fun t395 => (if t395 = true then ((directory_Offsets.f k1 x7_1).bind fun t396 => ((slices_Equal_int_int.f k1 t388 t396).bind fun t399 => (some t399))) else (some false))) else (some false))) else (some false)) else (some false)) = some r := H
       have A21 := Aside0.mk A210
       clear A210
       by_cases c22 : t389 = 0
       ·rw [if_pos c22] at H
        have c22b0 : (t389 == 0) = true := beq_iff_eq.mpr c22
        have c22b1 : (t389 != 0) = false := bne_eq_false_iff_eq.mpr c22
        clear c22
        by_cases c23 : ((t378.size : Int) % 2048) = 0
        ·rw [if_pos c23] at H
         have c23b0 : (((t378.size : Int) % 2048) == 0) = true := beq_iff_eq.mpr c23
         have c23b1 : (((t378.size : Int) % 2048) != 0) = false := bne_eq_false_iff_eq.mpr c23
         clear c23
         replace H := Option.bind_eq_some_iff.mp H
         obtain ⟨t394, A240, H⟩ := H
         replace H : (if (t378.size : Int) = (wrap64 (t394 * 2048)) then ((masterdiscref21_Same.f k1 t387 l0).bind fun t395 => (if t395 = true then ((directory_Offsets.f k1 x7_1).bind fun t396 => ((slices_Equal_int_int.f k1 t388 t396).bind fun t399 => (some t399))) else (some false))) else (some false)) = some r := H
         have A24 := Aside0.mk A240
         clear A240
         by_cases c25 : (t378.size : Int) = (wrap64 (t394 * 2048))
         ·rw [if_pos c25] at H
          have c25b0 : ((t378.size : Int) == (wrap64 (t394 * 2048))) = true := beq_iff_eq.mpr c25
          have c25b1 : ((t378.size : Int) != (wrap64 (t394 * 2048))) = false := bne_eq_false_iff_eq.mpr c25
          clear c25
          replace H := Option.bind_eq_some_iff.mp H
          obtain ⟨t395, A260, H⟩ := H
          replace H : (if t395 = true then ((directory_Offsets.f k1 x7_1).bind fun t396 => ((slices_Equal_int_int.f k1 t388 t396).bind fun t399 => (some t399))) else (some false)) = some r := H
          have A26 := Aside0.mk A260
          clear A260
          by_cases c27 : t395 = true
          ·subst c27
           have H1 : ((directory_Offsets.f k1 x7_1).bind fun t396 => ((slices_Equal_int_int.f k1 t388 t396).bind fun t399 => (some t399))) = some r := by rw [if_pos rfl] at H; exact H
           clear H
           have H := H1
           clear H1
           replace H := Option.bind_eq_some_iff.mp H
           obtain ⟨t396, A280, H⟩ := H
           replace H : ((slices_Equal_int_int.f k1 t388 t396).bind fun t399 => (some t399)) = some r := H
           have A28 := Aside0.mk A280
           clear A280
           replace H := Option.bind_eq_some_iff.mp H
           obtain ⟨t399, A290, H⟩ := H
           replace H : (some t399) = some r := H
           have A29 := Aside0.mk A290
           clear A290
           obtain rfl := Option.some.inj H
           go_wp2_with (first | ((with_reducible refine gate_callee (f := 28) rfl ?_); refine gL (some 50) Tryz.func28 #[.string (⟨#[0]⟩ : ByteArray), .int .i64 (wrap64 ((wrap64 (Int.tmod a1 3)) * 2048))] ?_; (with_reducible refine (strings_Repeat.calls (⟨#[0]⟩ : ByteArray) (wrap64 ((wrap64 (Int.tmod a1 3)) * 2048)) t386 _ A19.out).mono ?_); rintro e w30 ⟨rfl, hb⟩; refine ⟨_, rfl, ?_⟩; have n0_ := Aside0.mk (Kd.R_below (uR HO_7.out) hb); have n1_ := Aside0.mk (below_step (uB HB.out) hb); clear HO_7; clear HB; have HO_7 := n0_; have HB := n1_; clear n0_ n1_; (try clear hb); (try clear hb2); (try clear hk); (try clear hi)) | ((with_reducible refine gate_callee (f := 27) rfl ?_); refine gL (some 52) Tryz.func27 #[.string (t378 ++ t386)] ?_; (with_reducible refine (directory_Decode.calls k1 (t378 ++ t386) t387 t388 t389 _ A21.out).mono ?_); rintro e w31 ⟨v390, v392, rfl, ho0, ho1, hb⟩; refine ⟨_, rfl, ?_⟩; have n0_ := Aside0.mk (Kd.R_elder' (uR HO_7.out) (Kd.R_base ho1) hb); have n1_ := Aside0.mk (Kd.R_lower ho0 (below_size (uB HB.out))); have n2_ := Aside0.mk (Kd.R_lower (Kd.R_new' ho1 (Kd.R_lt (uR HO_7.out))) (below_size (uB HB.out))); have n3_ := Aside0.mk (below_step (uB HB.out) hb); clear HO_7; clear HB; have HO_7 := n0_; have HO391 := n1_; have HO393 := n2_; have HB := n3_; clear n0_ n1_ n2_ n3_; (try clear hb); (try clear hb2); (try clear hk); (try clear hi); (try clear ho0); (try clear ho1); obtain ⟨Ao32, co32, eo32⟩ := Kd.R_slice HO_7.out; subst eo32) | (go_at_call 19; (with_reducible refine (directory_Blocks.calls k1 _ _ x7_1 t394 _ ?side1 ?side2 A24.out).mono ?_); (case side1 => repeat (first | exact (Kd.R_reads' HO_7.out).2.2 | (with_reducible refine Kd.C_alloc ?_ _) | (with_reducible refine Kd.C_drewN ?_ _) | (with_reducible refine Kd.C_drew ?_))); (case side2 => exact (Kd.R_reads' HO_7.out).2.1); rintro e w33 ⟨rfl, hb⟩; have n0_ := Aside0.mk (Kd.R_below (uR HO_7.out) hb); have n1_ := Aside0.mk (Kd.R_below (uR HO391.out) hb); have n2_ := Aside0.mk (Kd.R_below (uR HO393.out) hb); have n3_ := Aside0.mk (below_step (uB HB.out) hb); clear HO_7; clear HO391; clear HO393; clear HB; have HO_7 := n0_; have HO391 := n1_; have HO393 := n2_; have HB := n3_; clear n0_ n1_ n2_ n3_; (try clear hb); (try clear hb2); (try clear hk); (try clear hi); obtain ⟨Ao34, co34, eo34⟩ := Kd.R_slice HO391.out; subst eo34) | (go_at_call 17; (with_reducible refine (masterdiscref21_Same.calls k1 _ _ t387 _ _ l0 true _ ?side1 ?side2 ?side3 ?side4 A26.out).mono ?_); (case side1 => repeat (first | exact (Kd.R_reads' HO391.out).2.2 | (with_reducible refine Kd.C_alloc ?_ _) | (with_reducible refine Kd.C_drewN ?_ _) | (with_reducible refine Kd.C_drew ?_))); (case side2 => exact (Kd.R_reads' HO391.out).2.1); (case side3 => repeat (first | exact (Kd.C_below HR0.out HB.out) | (with_reducible refine Kd.C_alloc ?_ _) | (with_reducible refine Kd.C_drewN ?_ _) | (with_reducible refine Kd.C_drew ?_))); (case side4 => exact HC0.out); rintro e w' ⟨rfl, ⟨nd, rfl⟩⟩) | (go_at_call 22; (with_reducible refine (directory_Offsets.calls k1 _ _ x7_1 t396 _ ?side1 ?side2 A28.out).mono ?_); (case side1 => repeat (first | exact (Kd.R_reads' HO_7.out).2.2 | (with_reducible refine Kd.C_alloc ?_ _) | (with_reducible refine Kd.C_drewN ?_ _) | (with_reducible refine Kd.C_drew ?_))); (case side2 => exact (Kd.R_reads' HO_7.out).2.1); rintro e w35 ⟨v397, rfl, ho0, hb⟩; have n0_ := Aside0.mk (Kd.R_elder' (uR HO_7.out) (Kd.R_base ho0) hb); have n1_ := Aside0.mk (Kd.R_below (uR HO391.out) hb); have n2_ := Aside0.mk (Kd.R_elder' (uR HO393.out) (Kd.R_base ho0) hb); have n3_ := Aside0.mk (Kd.R_lower (Kd.R_new' (Kd.R_new' ho0 (Kd.R_lt (uR HO_7.out))) (Kd.R_lt (uR HO393.out))) (below_size (uB HB.out))); have n4_ := Aside0.mk (below_step (uB HB.out) hb); clear HO_7; clear HO391; clear HO393; clear HB; have HO_7 := n0_; have HO391 := n1_; have HO393 := n2_; have HO398 := n3_; have HB := n4_; clear n0_ n1_ n2_ n3_ n4_; (try clear hb); (try clear hb2); (try clear hk); (try clear hi); (try clear ho0); obtain ⟨Ao36, co36, eo36⟩ := Kd.R_slice HO393.out; subst eo36; obtain ⟨Ao37, co37, eo37⟩ := Kd.R_slice HO398.out; subst eo37) | (go_at_call 21; (with_reducible refine (slices_Equal_int_int.calls k1 _ _ t388 _ _ t396 t399 _ ?side1 ?side2 ?side3 ?side4 A29.out).mono ?_); (case side1 => repeat (first | exact (Kd.R_reads' HO393.out).2.2 | (with_reducible refine Kd.C_alloc ?_ _) | (with_reducible refine Kd.C_drewN ?_ _) | (with_reducible refine Kd.C_drew ?_))); (case side2 => exact (Kd.R_reads' HO393.out).2.1); (case side3 => repeat (first | exact (Kd.R_reads' HO398.out).2.2 | (with_reducible refine Kd.C_alloc ?_ _) | (with_reducible refine Kd.C_drewN ?_ _) | (with_reducible refine Kd.C_drew ?_))); (case side4 => exact (Kd.R_reads' HO398.out).2.1); rintro e w' ⟨rfl, ⟨nd, rfl⟩⟩))
           go_ret
           exact ⟨by first | rfl | (simp [errW_none, errW_some] <;> rfl) | (simp [*, errW_none, errW_some] <;> rfl), uB HB.out⟩
          ·replace c27 := Bool.eq_false_iff.mpr c27
           subst c27
           have H1 : (some false) = some r := by rw [if_neg (show ¬ (false = true) by decide)] at H; exact H
           clear H
           have H := H1
           clear H1
           obtain rfl := Option.some.inj H
           go_wp2_with (first | ((with_reducible refine gate_callee (f := 28) rfl ?_); refine gL (some 50) Tryz.func28 #[.string (⟨#[0]⟩ : ByteArray), .int .i64 (wrap64 ((wrap64 (Int.tmod a1 3)) * 2048))] ?_; (with_reducible refine (strings_Repeat.calls (⟨#[0]⟩ : ByteArray) (wrap64 ((wrap64 (Int.tmod a1 3)) * 2048)) t386 _ A19.out).mono ?_); rintro e w38 ⟨rfl, hb⟩; refine ⟨_, rfl, ?_⟩; have n0_ := Aside0.mk (Kd.R_below (uR HO_7.out) hb); have n1_ := Aside0.mk (below_step (uB HB.out) hb); clear HO_7; clear HB; have HO_7 := n0_; have HB := n1_; clear n0_ n1_; (try clear hb); (try clear hb2); (try clear hk); (try clear hi)) | ((with_reducible refine gate_callee (f := 27) rfl ?_); refine gL (some 52) Tryz.func27 #[.string (t378 ++ t386)] ?_; (with_reducible refine (directory_Decode.calls k1 (t378 ++ t386) t387 t388 t389 _ A21.out).mono ?_); rintro e w39 ⟨v390, v392, rfl, ho0, ho1, hb⟩; refine ⟨_, rfl, ?_⟩; have n0_ := Aside0.mk (Kd.R_elder' (uR HO_7.out) (Kd.R_base ho1) hb); have n1_ := Aside0.mk (Kd.R_lower ho0 (below_size (uB HB.out))); have n2_ := Aside0.mk (Kd.R_lower (Kd.R_new' ho1 (Kd.R_lt (uR HO_7.out))) (below_size (uB HB.out))); have n3_ := Aside0.mk (below_step (uB HB.out) hb); clear HO_7; clear HB; have HO_7 := n0_; have HO391 := n1_; have HO393 := n2_; have HB := n3_; clear n0_ n1_ n2_ n3_; (try clear hb); (try clear hb2); (try clear hk); (try clear hi); (try clear ho0); (try clear ho1); obtain ⟨Ao40, co40, eo40⟩ := Kd.R_slice HO_7.out; subst eo40) | (go_at_call 19; (with_reducible refine (directory_Blocks.calls k1 _ _ x7_1 t394 _ ?side1 ?side2 A24.out).mono ?_); (case side1 => repeat (first | exact (Kd.R_reads' HO_7.out).2.2 | (with_reducible refine Kd.C_alloc ?_ _) | (with_reducible refine Kd.C_drewN ?_ _) | (with_reducible refine Kd.C_drew ?_))); (case side2 => exact (Kd.R_reads' HO_7.out).2.1); rintro e w41 ⟨rfl, hb⟩; have n0_ := Aside0.mk (Kd.R_below (uR HO_7.out) hb); have n1_ := Aside0.mk (Kd.R_below (uR HO391.out) hb); have n2_ := Aside0.mk (Kd.R_below (uR HO393.out) hb); have n3_ := Aside0.mk (below_step (uB HB.out) hb); clear HO_7; clear HO391; clear HO393; clear HB; have HO_7 := n0_; have HO391 := n1_; have HO393 := n2_; have HB := n3_; clear n0_ n1_ n2_ n3_; (try clear hb); (try clear hb2); (try clear hk); (try clear hi); obtain ⟨Ao42, co42, eo42⟩ := Kd.R_slice HO391.out; subst eo42) | (go_at_call 17; (with_reducible refine (masterdiscref21_Same.calls k1 _ _ t387 _ _ l0 false _ ?side1 ?side2 ?side3 ?side4 A26.out).mono ?_); (case side1 => repeat (first | exact (Kd.R_reads' HO391.out).2.2 | (with_reducible refine Kd.C_alloc ?_ _) | (with_reducible refine Kd.C_drewN ?_ _) | (with_reducible refine Kd.C_drew ?_))); (case side2 => exact (Kd.R_reads' HO391.out).2.1); (case side3 => repeat (first | exact (Kd.C_below HR0.out HB.out) | (with_reducible refine Kd.C_alloc ?_ _) | (with_reducible refine Kd.C_drewN ?_ _) | (with_reducible refine Kd.C_drew ?_))); (case side4 => exact HC0.out); rintro e w' ⟨rfl, ⟨nd, rfl⟩⟩))
           go_ret
           exact ⟨by first | rfl | (simp [errW_none, errW_some] <;> rfl) | (simp [*, errW_none, errW_some] <;> rfl), uB HB.out⟩
         ·rw [if_neg c25] at H
          have c25b0 : ((t378.size : Int) == (wrap64 (t394 * 2048))) = false := beq_eq_false_iff_ne.mpr c25
          have c25b1 : ((t378.size : Int) != (wrap64 (t394 * 2048))) = true := bne_iff_ne.mpr c25
          obtain rfl := Option.some.inj H
          go_wp2_with (first | ((with_reducible refine gate_callee (f := 28) rfl ?_); refine gL (some 50) Tryz.func28 #[.string (⟨#[0]⟩ : ByteArray), .int .i64 (wrap64 ((wrap64 (Int.tmod a1 3)) * 2048))] ?_; (with_reducible refine (strings_Repeat.calls (⟨#[0]⟩ : ByteArray) (wrap64 ((wrap64 (Int.tmod a1 3)) * 2048)) t386 _ A19.out).mono ?_); rintro e w43 ⟨rfl, hb⟩; refine ⟨_, rfl, ?_⟩; have n0_ := Aside0.mk (Kd.R_below (uR HO_7.out) hb); have n1_ := Aside0.mk (below_step (uB HB.out) hb); clear HO_7; clear HB; have HO_7 := n0_; have HB := n1_; clear n0_ n1_; (try clear hb); (try clear hb2); (try clear hk); (try clear hi)) | ((with_reducible refine gate_callee (f := 27) rfl ?_); refine gL (some 52) Tryz.func27 #[.string (t378 ++ t386)] ?_; (with_reducible refine (directory_Decode.calls k1 (t378 ++ t386) t387 t388 t389 _ A21.out).mono ?_); rintro e w44 ⟨v390, v392, rfl, ho0, ho1, hb⟩; refine ⟨_, rfl, ?_⟩; have n0_ := Aside0.mk (Kd.R_elder' (uR HO_7.out) (Kd.R_base ho1) hb); have n1_ := Aside0.mk (Kd.R_lower ho0 (below_size (uB HB.out))); have n2_ := Aside0.mk (Kd.R_lower (Kd.R_new' ho1 (Kd.R_lt (uR HO_7.out))) (below_size (uB HB.out))); have n3_ := Aside0.mk (below_step (uB HB.out) hb); clear HO_7; clear HB; have HO_7 := n0_; have HO391 := n1_; have HO393 := n2_; have HB := n3_; clear n0_ n1_ n2_ n3_; (try clear hb); (try clear hb2); (try clear hk); (try clear hi); (try clear ho0); (try clear ho1); obtain ⟨Ao45, co45, eo45⟩ := Kd.R_slice HO_7.out; subst eo45) | (go_at_call 19; (with_reducible refine (directory_Blocks.calls k1 _ _ x7_1 t394 _ ?side1 ?side2 A24.out).mono ?_); (case side1 => repeat (first | exact (Kd.R_reads' HO_7.out).2.2 | (with_reducible refine Kd.C_alloc ?_ _) | (with_reducible refine Kd.C_drewN ?_ _) | (with_reducible refine Kd.C_drew ?_))); (case side2 => exact (Kd.R_reads' HO_7.out).2.1); rintro e w46 ⟨rfl, hb⟩; have n0_ := Aside0.mk (Kd.R_below (uR HO_7.out) hb); have n1_ := Aside0.mk (Kd.R_below (uR HO391.out) hb); have n2_ := Aside0.mk (Kd.R_below (uR HO393.out) hb); have n3_ := Aside0.mk (below_step (uB HB.out) hb); clear HO_7; clear HO391; clear HO393; clear HB; have HO_7 := n0_; have HO391 := n1_; have HO393 := n2_; have HB := n3_; clear n0_ n1_ n2_ n3_; (try clear hb); (try clear hb2); (try clear hk); (try clear hi)))
          go_ret
          exact ⟨by first | rfl | (simp [errW_none, errW_some] <;> rfl) | (simp [*, errW_none, errW_some] <;> rfl), uB HB.out⟩
        ·rw [if_neg c23] at H
         have c23b0 : (((t378.size : Int) % 2048) == 0) = false := beq_eq_false_iff_ne.mpr c23
         have c23b1 : (((t378.size : Int) % 2048) != 0) = true := bne_iff_ne.mpr c23
         obtain rfl := Option.some.inj H
         go_wp2_with (first | ((with_reducible refine gate_callee (f := 28) rfl ?_); refine gL (some 50) Tryz.func28 #[.string (⟨#[0]⟩ : ByteArray), .int .i64 (wrap64 ((wrap64 (Int.tmod a1 3)) * 2048))] ?_; (with_reducible refine (strings_Repeat.calls (⟨#[0]⟩ : ByteArray) (wrap64 ((wrap64 (Int.tmod a1 3)) * 2048)) t386 _ A19.out).mono ?_); rintro e w47 ⟨rfl, hb⟩; refine ⟨_, rfl, ?_⟩; have n0_ := Aside0.mk (Kd.R_below (uR HO_7.out) hb); have n1_ := Aside0.mk (below_step (uB HB.out) hb); clear HO_7; clear HB; have HO_7 := n0_; have HB := n1_; clear n0_ n1_; (try clear hb); (try clear hb2); (try clear hk); (try clear hi)) | ((with_reducible refine gate_callee (f := 27) rfl ?_); refine gL (some 52) Tryz.func27 #[.string (t378 ++ t386)] ?_; (with_reducible refine (directory_Decode.calls k1 (t378 ++ t386) t387 t388 t389 _ A21.out).mono ?_); rintro e w48 ⟨v390, v392, rfl, ho0, ho1, hb⟩; refine ⟨_, rfl, ?_⟩; have n0_ := Aside0.mk (Kd.R_elder' (uR HO_7.out) (Kd.R_base ho1) hb); have n1_ := Aside0.mk (Kd.R_lower ho0 (below_size (uB HB.out))); have n2_ := Aside0.mk (Kd.R_lower (Kd.R_new' ho1 (Kd.R_lt (uR HO_7.out))) (below_size (uB HB.out))); have n3_ := Aside0.mk (below_step (uB HB.out) hb); clear HO_7; clear HB; have HO_7 := n0_; have HO391 := n1_; have HO393 := n2_; have HB := n3_; clear n0_ n1_ n2_ n3_; (try clear hb); (try clear hb2); (try clear hk); (try clear hi); (try clear ho0); (try clear ho1)))
         go_ret
         exact ⟨by first | rfl | (simp [errW_none, errW_some] <;> rfl) | (simp [*, errW_none, errW_some] <;> rfl), uB HB.out⟩
       ·rw [if_neg c22] at H
        have c22b0 : (t389 == 0) = false := beq_eq_false_iff_ne.mpr c22
        have c22b1 : (t389 != 0) = true := bne_iff_ne.mpr c22
        obtain rfl := Option.some.inj H
        go_wp2_with (first | ((with_reducible refine gate_callee (f := 28) rfl ?_); refine gL (some 50) Tryz.func28 #[.string (⟨#[0]⟩ : ByteArray), .int .i64 (wrap64 ((wrap64 (Int.tmod a1 3)) * 2048))] ?_; (with_reducible refine (strings_Repeat.calls (⟨#[0]⟩ : ByteArray) (wrap64 ((wrap64 (Int.tmod a1 3)) * 2048)) t386 _ A19.out).mono ?_); rintro e w49 ⟨rfl, hb⟩; refine ⟨_, rfl, ?_⟩; have n0_ := Aside0.mk (Kd.R_below (uR HO_7.out) hb); have n1_ := Aside0.mk (below_step (uB HB.out) hb); clear HO_7; clear HB; have HO_7 := n0_; have HB := n1_; clear n0_ n1_; (try clear hb); (try clear hb2); (try clear hk); (try clear hi)) | ((with_reducible refine gate_callee (f := 27) rfl ?_); refine gL (some 52) Tryz.func27 #[.string (t378 ++ t386)] ?_; (with_reducible refine (directory_Decode.calls k1 (t378 ++ t386) t387 t388 t389 _ A21.out).mono ?_); rintro e w50 ⟨v390, v392, rfl, ho0, ho1, hb⟩; refine ⟨_, rfl, ?_⟩; have n0_ := Aside0.mk (Kd.R_elder' (uR HO_7.out) (Kd.R_base ho1) hb); have n1_ := Aside0.mk (Kd.R_lower ho0 (below_size (uB HB.out))); have n2_ := Aside0.mk (Kd.R_lower (Kd.R_new' ho1 (Kd.R_lt (uR HO_7.out))) (below_size (uB HB.out))); have n3_ := Aside0.mk (below_step (uB HB.out) hb); clear HO_7; clear HB; have HO_7 := n0_; have HO391 := n1_; have HO393 := n2_; have HB := n3_; clear n0_ n1_ n2_ n3_; (try clear hb); (try clear hb2); (try clear hk); (try clear hi); (try clear ho0); (try clear ho1)))
        go_ret
        exact ⟨by first | rfl | (simp [errW_none, errW_some] <;> rfl) | (simp [*, errW_none, errW_some] <;> rfl), uB HB.out⟩
   ·rw [if_neg c8] at H
    have c8b0 : (t379 == 0) = false := beq_eq_false_iff_ne.mpr c8
    have c8b1 : (t379 != 0) = true := bne_iff_ne.mpr c8
    obtain rfl := Option.some.inj H
    go_enter Tryz.func7, Tryz.ntmps7
    go_wp2_with (first | ((with_reducible refine gate_callee (f := 9) rfl ?_); refine gL (some 13) Tryz.func9 #[] ?_; (with_reducible refine (masterdisclaw21_awake.calls  true _ A3.out).mono ?_); rintro e w51 ⟨rfl, hb⟩; refine ⟨_, rfl, ?_⟩; have n0_ := Aside0.mk (below_step (uB HB.out) hb); clear HB; have HB := n0_; clear n0_; (try clear hb); (try clear hb2); (try clear hk); (try clear hi)) | ((with_reducible refine gate_callee (f := 13) rfl ?_); refine gL (some 16) Tryz.func13 #[.slice A0 l0.length c0, .int .i64 60] ?_; (with_reducible refine (masterdiscref21_Small.calls k _ _ l0 60 true _ ?side1 ?side2 A5.out).mono ?_); (case side1 => repeat (first | exact (Kd.C_below HR0.out HB.out) | (with_reducible refine Kd.C_alloc ?_ _) | (with_reducible refine Kd.C_drewN ?_ _) | (with_reducible refine Kd.C_drew ?_))); (case side2 => exact HC0.out); rintro e w' ⟨rfl, ⟨nd, rfl⟩⟩; refine ⟨_, rfl, ?_⟩) | ((with_reducible refine gate_callee (f := 24) rfl ?_); refine gL (some 20) Tryz.func24 #[.slice A0 l0.length c0] ?_; (with_reducible refine (directory_Encode.calls k _ _ l0 t378 t379 _ ?side1 ?side2 A7.out).mono ?_); (case side1 => repeat (first | exact (Kd.C_below HR0.out (uB HB.out)) | (with_reducible refine Kd.C_alloc ?_ _) | (with_reducible refine Kd.C_drewN ?_ _) | (with_reducible refine Kd.C_drew ?_))); (case side2 => exact HC0.out); rintro e w52 ⟨rfl, hb⟩; refine ⟨_, rfl, ?_⟩; have n0_ := Aside0.mk (below_step (uB HB.out) hb); clear HB; have HB := n0_; clear n0_; (try clear hb); (try clear hb2); (try clear hk); (try clear hi)))
    go_ret
    exact ⟨by first | rfl | (simp [errW_none, errW_some] <;> rfl) | (simp [*, errW_none, errW_some] <;> rfl), uB HB.out⟩
  ·replace c6 := Bool.eq_false_iff.mpr c6
   subst c6
   have H1 : (some true) = some r := by rw [if_neg (show ¬ (false = true) by decide)] at H; exact H
   clear H
   have H := H1
   clear H1
   obtain rfl := Option.some.inj H
   go_enter Tryz.func7, Tryz.ntmps7
   go_wp2_with (first | ((with_reducible refine gate_callee (f := 9) rfl ?_); refine gL (some 13) Tryz.func9 #[] ?_; (with_reducible refine (masterdisclaw21_awake.calls  true _ A3.out).mono ?_); rintro e w53 ⟨rfl, hb⟩; refine ⟨_, rfl, ?_⟩; have n0_ := Aside0.mk (below_step (uB HB.out) hb); clear HB; have HB := n0_; clear n0_; (try clear hb); (try clear hb2); (try clear hk); (try clear hi)) | ((with_reducible refine gate_callee (f := 13) rfl ?_); refine gL (some 16) Tryz.func13 #[.slice A0 l0.length c0, .int .i64 60] ?_; (with_reducible refine (masterdiscref21_Small.calls k _ _ l0 60 false _ ?side1 ?side2 A5.out).mono ?_); (case side1 => repeat (first | exact (Kd.C_below HR0.out HB.out) | (with_reducible refine Kd.C_alloc ?_ _) | (with_reducible refine Kd.C_drewN ?_ _) | (with_reducible refine Kd.C_drew ?_))); (case side2 => exact HC0.out); rintro e w' ⟨rfl, ⟨nd, rfl⟩⟩; refine ⟨_, rfl, ?_⟩))
   go_ret
   exact ⟨by first | rfl | (simp [errW_none, errW_some] <;> rfl) | (simp [*, errW_none, errW_some] <;> rfl), uB HB.out⟩
 ·replace c4 := Bool.eq_false_iff.mpr c4
  subst c4
  have H1 : (some false) = some r := by rw [if_neg (show ¬ (false = true) by decide)] at H; exact H
  clear H
  have H := H1
  clear H1
  obtain rfl := Option.some.inj H
  go_enter Tryz.func7, Tryz.ntmps7
  go_wp2_with (first | ((with_reducible refine gate_callee (f := 9) rfl ?_); refine gL (some 13) Tryz.func9 #[] ?_; (with_reducible refine (masterdisclaw21_awake.calls  false _ A3.out).mono ?_); rintro e w54 ⟨rfl, hb⟩; refine ⟨_, rfl, ?_⟩; have n0_ := Aside0.mk (below_step (uB HB.out) hb); clear HB; have HB := n0_; clear n0_; (try clear hb); (try clear hb2); (try clear hk); (try clear hi)))
  go_ret
  exact ⟨by first | rfl | (simp [errW_none, errW_some] <;> rfl) | (simp [*, errW_none, errW_some] <;> rfl), uB HB.out⟩

-- NOT PRINTED: function 57 (slices_IndexFunc_int_int)

-- NOT PRINTED: function 29 (slices_ContainsFunc_int_int)

-- NOT PRINTED: function 8 (masterdisclaw21_DirectoryFits)

end Go.Proofs.YthblghfobnhoeaaGreat.A
namespace Go.Proofs.YthblghfobnhoeaaGreat.Q
open Go.RowKit Go.Proofs.YthblghfobnhoeaaGreatW.PrintWords Go.Proofs.YthblghfobnhoeaaGreatW.PrintLast Go.Proofs.YthblghfobnhoeaaGreat.A Go.Proofs.YthblghfobnhoeaaGreat.H
set_option linter.unusedVariables false

/-! The reference's Compare has the sign of the order of the keys. -/
theorem special_f (a : ByteArray) : masterdiscref21_special.f a = some (rankP a) := by
  unfold masterdiscref21_special.f rankP
  split
  · rfl
  · split <;> rfl
theorem atF_bt (s : ByteArray) (f : Int) (i : Nat) (h : i < s.size) : atF s f i = bt s (i : Int) := by unfold atF; rw [if_pos h]
theorem atF_f (s : ByteArray) (f : Int) (i : Nat) (h : ¬ i < s.size) : atF s f i = f := by unfold atF; rw [if_neg h]
theorem padded_j3 (k : Nat) (a b : ByteArray) (f : Int) (i : Nat) (hi : i ≤ 2000) (x y : Int) : masterdiscref21_padded.j3 (k + 1) a b f (i : Int) x y = if cmpV x y = 0 then masterdiscref21_padded.l0 k a b f ((i + 1 : Nat) : Int) else some (cmpV x y) := by
  have hw : wrap64 ((i : Int) + 1) = ((i + 1 : Nat) : Int) := by rw [wrap_id (by omega) (by omega)]; omega
  rw [masterdiscref21_padded.j3, hw]
  rcases cmpV_cases x y with h | h | h
  · rw [if_pos h.1, h.2, if_neg (by decide)]
  · rw [if_neg (by omega), if_neg (by omega), h.2, if_pos rfl]
  · rw [if_neg (by omega), if_pos h.1, h.2, if_neg (by decide)]
theorem padded_j2 (k : Nat) (a b : ByteArray) (f : Int) (i : Nat) (hi : i ≤ 2000) (x : Int) : masterdiscref21_padded.j2 (k + 2) a b f (i : Int) x f = if cmpV x (atF b f i) = 0 then masterdiscref21_padded.l0 k a b f ((i + 1 : Nat) : Int) else some (cmpV x (atF b f i)) := by
  rw [masterdiscref21_padded.j2]
  by_cases h : i < b.size
  · rw [if_pos (by omega), if_pos (by omega), padded_j3 _ _ _ _ _ hi, atF_bt b f i h]
  · rw [if_neg (by omega), padded_j3 _ _ _ _ _ hi, atF_f b f i h]
theorem padded_j1 (k : Nat) (a b : ByteArray) (f : Int) (i : Nat) (hi : i ≤ 2000) : masterdiscref21_padded.j1 (k + 3) a b f (i : Int) true = if cmpV (atF a f i) (atF b f i) = 0 then masterdiscref21_padded.l0 k a b f ((i + 1 : Nat) : Int) else some (cmpV (atF a f i) (atF b f i)) := by
  rw [masterdiscref21_padded.j1, if_pos rfl]
  by_cases h : i < a.size
  · rw [if_pos (by omega), if_pos (by omega), padded_j2 _ _ _ _ _ hi, atF_bt a f i h]
  · rw [if_neg (by omega), padded_j2 _ _ _ _ _ hi, atF_f a f i h]
theorem padded_l (a b : ByteArray) (f : Int) (n : Nat) (hn : n = max a.size b.size) (h2 : n ≤ 2000) (j : Nat) : ∀ (k i : Nat), i + j = n → 4 * j + 3 ≤ k → masterdiscref21_padded.l0 k a b f (i : Int) = some (bhV a b f j i) := by
  induction j with
  | zero =>
    intro k i hi hk
    obtain ⟨k, rfl⟩ : ∃ m, k = m + 2 := ⟨k - 2, by omega⟩
    rw [masterdiscref21_padded.l0, if_neg (by omega), decide_eq_false (by omega), masterdiscref21_padded.j1, if_neg (by decide)]; rfl
  | succ j ih =>
    intro k i hi hk
    obtain ⟨k, rfl⟩ : ∃ m, k = m + 4 := ⟨k - 4, by omega⟩
    have hr := padded_j1 k a b f i (by omega)
    rw [ih k (i + 1) (by omega) (by omega)] at hr
    rw [bhV, masterdiscref21_padded.l0]
    by_cases h : i < a.size
    · rw [if_pos (by omega), hr]
      split <;> rfl
    · rw [if_neg (by omega), decide_eq_true (by omega), hr]
      split <;> rfl
theorem padded_f (a b : ByteArray) (f : Int) (ha : a.size ≤ 1000) (hb : b.size ≤ 1000) (k : Nat) (hk : 4003 ≤ k) : masterdiscref21_padded.f k a b f = some (cmpK (keyF a.data.toList f 1000) (keyF b.data.toList f 1000)) := by
  unfold masterdiscref21_padded.f
  have := padded_l a b f _ rfl (by omega) (max a.size b.size) k 0 (by omega) (by omega)
  rw [bh_cmp a b f 1000 ha hb] at this
  exact this
theorem padded_mk (x y : List UInt8) (f : Int) (hx : x.length ≤ 1000) (hy : y.length ≤ 1000) (k : Nat) (hk : 4003 ≤ k) : masterdiscref21_padded.f k (mkB x) (mkB y) f = some (cmpK (keyF x f 1000) (keyF y f 1000)) :=
  padded_f (mkB x) (mkB y) f (by rw [mkB_size]; exact hx) (by rw [mkB_size]; exact hy) k hk
theorem find_l (s : ByteArray) (x y : UInt8) (hs : s.size ≤ 100000) (j : Nat) : ∀ (k i : Nat), i + j = s.size → j + 1 ≤ k →
    masterdiscref21_find.l0 k s (x.toNat : Int) (y.toNat : Int) (i : Int) = some ((i + ((s.data.toList.drop i).takeWhile fun c => !(c == x || c == y)).length : Nat) : Int) := by
  have hl : s.data.toList.length = s.size := Array.length_toList
  induction j with
  | zero =>
    intro k i hi hk
    obtain ⟨k, rfl⟩ : ∃ m, k = m + 1 := ⟨k - 1, by omega⟩
    rw [masterdiscref21_find.l0, if_neg (by omega), List.drop_of_length_le (by omega)]
    simp; omega
  | succ j ih =>
    intro k i hi hk
    obtain ⟨k, rfl⟩ : ∃ m, k = m + 1 := ⟨k - 1, by omega⟩
    have hw : wrap64 ((i : Int) + 1) = ((i + 1 : Nat) : Int) := by rw [wrap_id (by omega) (by omega)]; omega
    have hd : s.data.toList.drop i = s.data.toList[i]'(by omega) :: s.data.toList.drop (i + 1) := List.drop_eq_getElem_cons (by omega)
    have hb := bt_head s i _ _ hd
    rw [masterdiscref21_find.l0, if_pos (by omega), if_pos (by omega), hb, hd, List.takeWhile_cons]
    generalize s.data.toList[i]'(by omega) = c
    have hx : ((c.toNat : Int) = (x.toNat : Int)) ↔ c = x := ⟨fun h => UInt8.toNat_inj.1 (by omega), fun h => by rw [h]⟩
    have hy : ((c.toNat : Int) = (y.toNat : Int)) ↔ c = y := ⟨fun h => UInt8.toNat_inj.1 (by omega), fun h => by rw [h]⟩
    by_cases h1 : c = x
    · rw [if_pos (hx.2 h1)]; simp [h1]
    · rw [if_neg (fun h => h1 (hx.1 h))]
      by_cases h2 : c = y
      · rw [if_pos (hy.2 h2)]; simp [h2]
      · rw [if_neg (fun h => h2 (hy.1 h)), hw, ih k (i + 1) (by omega) (by omega)]
        have hf : (!(c == x || c == y)) = true := by simp [h1, h2]
        rw [hf, if_pos rfl, List.length_cons]
        congr 1; omega
theorem find_f (s : ByteArray) (x y : UInt8) (hs : s.size ≤ 100000) (k : Nat) (hk : s.size + 1 ≤ k) : masterdiscref21_find.f k s (x.toNat : Int) (y.toNat : Int) = some ((s.data.toList.takeWhile fun c => !(c == x || c == y)).length : Int) := by
  unfold masterdiscref21_find.f
  have := find_l s x y hs s.size k 0 (by omega) (by omega)
  rw [List.drop_zero, Nat.zero_add] at this
  exact this
set_option maxHeartbeats 2000000 in
theorem rparts_f (s : ByteArray) (hs : s.size ≤ 1000) (k : Nat) (hk : 1100 ≤ k) : masterdiscref21_Parts.f k s = some (mkB (partsL s.data.toList).1, mkB (partsL s.data.toList).2.1, mkB (partsL s.data.toList).2.2) := by
  obtain ⟨k, rfl⟩ : ∃ m, k = m + 1 := ⟨k - 1, by omega⟩
  unfold masterdiscref21_Parts.f
  have hf := find_f s 46 59 (by omega) (k + 1) (by omega)
  rw [show ((46 : UInt8).toNat : Int) = 46 from rfl, show ((59 : UInt8).toNat : Int) = 59 from rfl] at hf
  have hp : (fun c : UInt8 => !(c == 46 || c == 59)) = fun c => !isDot c := rfl
  rw [hp] at hf
  rw [hf, Option.bind_some]
  have htd := tw_dw (fun c => !isDot c) s.data.toList
  have hl : s.data.toList.length = s.size := Array.length_toList
  have hn : s.extract 0 (s.data.toList.takeWhile fun c => !isDot c).length = mkB (s.data.toList.takeWhile fun c => !isDot c) := ba_ext (by rw [ext_take, tw_take]; rfl)
  rw [if_pos (by omega), if_pos (by omega), Int.toNat_natCast, hn]
  unfold partsL
  cases h : s.data.toList.dropWhile (fun c => !isDot c) with
  | nil =>
    rw [h, List.length_nil] at htd
    have he : s.data.toList.takeWhile (fun c => !isDot c) = s.data.toList := by
      conv => rhs; rw [← List.takeWhile_append_dropWhile (p := fun c => !isDot c) (l := s.data.toList), h, List.append_nil]
    rw [if_neg (by omega), masterdiscref21_Parts.j0, if_neg (by decide), if_neg (by omega), he]
    rfl
  | cons c r =>
    rw [h, List.length_cons] at htd
    have hd : s.data.toList.drop (s.data.toList.takeWhile fun c => !isDot c).length = c :: r := by rw [tw_drop, h]
    have hdot : isDot c = true := by
      have := List.head?_dropWhile_not (fun c => !isDot c) s.data.toList
      rw [h] at this
      simpa using this
    generalize hT : (s.data.toList.takeWhile fun c => !isDot c).length = T at *
    have hw : wrap64 ((T : Int) + 1) = ((T + 1 : Nat) : Int) := by rw [wrap_id (by omega) (by omega)]; omega
    have hr : (s.extract (T + 1) s.size).data.toList = r := by rw [ext_drop, ← List.drop_drop, hd]; rfl
    have hrs : (s.extract (T + 1) s.size).size = r.length := by rw [← hr]; exact Array.length_toList.symm
    rw [if_pos (by omega), bt_head s _ c r hd, masterdiscref21_Parts.j0, hw]
    by_cases hc : c = 59
    · subst hc
      rw [if_neg (by decide), if_pos (by omega), if_pos (by omega), if_pos (by omega), Int.toNat_natCast]
      simp only [if_true]
      rw [show s.extract (T + 1) s.size = mkB r from ba_ext hr]
      rfl
    · have h46 : c = 46 := by unfold isDot at hdot; simpa [hc] using hdot
      subst h46
      clear hc hdot hf
      have hf2 := find_f (s.extract (T + 1) s.size) 59 59 (by omega) k (by omega)
      rw [show ((59 : UInt8).toNat : Int) = 59 from rfl, hr] at hf2
      have hp2 : (fun c : UInt8 => !(c == 59 || c == 59)) = fun c => !(c == 59) := by funext c; rw [Bool.or_self]
      rw [hp2] at hf2
      have htd2 := tw_dw (fun c => !(c == 59)) r
      have hx : (s.extract (T + 1) s.size).extract 0 (r.takeWhile fun c => !(c == 59)).length = mkB (r.takeWhile fun c => !(c == 59)) := ba_ext (by rw [ext_take, hr, tw_take]; rfl)
      have hlast : ∀ M, (r.takeWhile fun c => !(c == 59)).length = M → s.extract (T + 1 + M + 1) s.size = mkB ((r.dropWhile fun c => !(c == 59)).drop 1) := by
        intro M hM
        apply ba_ext
        rw [ext_drop, mkB_list, ← tw_drop, hM, ← hr, ext_drop, List.drop_drop, List.drop_drop]
        congr 1
      have hlen0 : (r.dropWhile fun c => !(c == 59)) = [] ∨ 0 < (r.dropWhile fun c => !(c == 59)).length := by
        cases r.dropWhile fun c => !(c == 59) with
        | nil => exact .inl rfl
        | cons a b => exact .inr (by rw [List.length_cons]; exact Nat.succ_pos _)
      generalize hM : (r.takeWhile fun c => !(c == 59)).length = M at *
      have hl2 := hlast M rfl
      clear hlast
      simp only [show ((46 : UInt8) = 59) = False by decide, if_false]
      rw [← hl2, ← hx]
      generalize hN : (r.dropWhile fun c => !(c == 59)) = N at *
      clear hN hM hx hp2 hr h hd hT hn hp hw
      have w2 : wrap64 (((T + 1 : Nat) : Int) + (M : Int)) = ((T + 1 + M : Nat) : Int) := by rw [wrap_id (by omega) (by omega)]; omega
      have w3 : wrap64 (((T + 1 + M : Nat) : Int) + 1) = ((T + 1 + M + 1 : Nat) : Int) := by rw [wrap_id (by omega) (by omega)]; omega
      rw [if_pos (by decide), if_pos (by omega), if_pos (by omega), Int.toNat_natCast, hf2, Option.bind_some, if_pos (by omega), if_pos (by omega), w2, w3, Int.toNat_natCast, Int.toNat_natCast]
      rcases hlen0 with h0 | h0
      · have hN0 : N.length = 0 := by rw [h0]; rfl
        rw [if_neg (by omega)]
        have he : s.extract (T + 1 + M + 1) s.size = ⟨#[]⟩ := by rw [hl2, h0]; rfl
        rw [he]
      · rw [if_pos (by omega), if_pos (by omega), if_pos (by omega)]
theorem rrep_l (c n : Int) (hn : n ≤ 100000) (j : Nat) : ∀ (k i : Nat), (n = (i : Int) + j ∨ (j = 0 ∧ n ≤ (i : Int))) → j + 1 ≤ k → i ≤ 100000 → masterdiscref01_Repeat.l0 k c n (List.replicate i c) (i : Int) = some (strOfNums (List.replicate (i + j) c)) := by
  induction j with
  | zero =>
    intro k i hi hk hi2
    obtain ⟨k, rfl⟩ : ∃ m, k = m + 1 := ⟨k - 1, by omega⟩
    rw [masterdiscref01_Repeat.l0, if_neg (by omega)]; rfl
  | succ j ih =>
    intro k i hi hk hi2
    obtain ⟨k, rfl⟩ : ∃ m, k = m + 1 := ⟨k - 1, by omega⟩
    have hw : wrap64 ((i : Int) + 1) = ((i + 1 : Nat) : Int) := by rw [wrap_id (by omega) (by omega)]; omega
    rw [masterdiscref01_Repeat.l0, if_pos (by omega), if_pos (by rw [List.length_replicate]; omega), hw, ← List.replicate_succ', ih k (i + 1) (by omega) (by omega) (by omega)]
    rw [show i + 1 + j = i + (j + 1) by omega]
theorem rrep_f (c n : Int) (hn : n ≤ 100000) (k : Nat) (hk : n.toNat + 1 ≤ k) : masterdiscref01_Repeat.f k c n = some (strOfNums (List.replicate n.toNat c)) := by
  unfold masterdiscref01_Repeat.f
  have := rrep_l c n hn n.toNat k 0 (by omega) (by omega) (by omega)
  rw [Nat.zero_add] at this
  exact this
theorem rrep_list (n : Nat) : (strOfNums (List.replicate n 48)).data.toList = List.replicate n 48 := by
  rw [strOfNums_data, List.map_replicate]; rfl
/-- A number's sign. -/
def sgn (n : Int) : Int := if n < 0 then -1 else if n > 0 then 1 else 0
theorem sign_f (n : Int) : masterdisclaw21_sign.f n = some (sgn n) := by
  unfold masterdisclaw21_sign.f sgn
  split
  · rfl
  · split <;> rfl
theorem sgn_cmpK (x y : List Int) : sgn (cmpK x y) = cmpK x y := by
  rcases cmpK_val x y with h | h | h <;> rw [h] <;> rfl
theorem sgn_cmpV (x y : Int) : sgn (x - y) = cmpV x y := by
  unfold sgn
  rcases cmpV_cases x y with h | h | h
  · rw [if_pos (by omega), h.2]
  · rw [if_neg (by omega), if_neg (by omega), h.2]
  · rw [if_neg (by omega), if_pos (by omega), h.2]
theorem keyF_full (l : List UInt8) (f : Int) (n : Nat) (h : l.length = n) : keyF l f n = bl2 l := by
  unfold keyF; rw [h, Nat.sub_self, List.replicate_zero, List.append_nil]
theorem rver (v z : List UInt8) (hv : v.length ≤ 1000) (hz : z.length ≤ 1000) (k : Nat) (hk : 4003 ≤ k) :
    ((masterdiscref01_Repeat.f k 48 (wrap64 (((mkB z).size : Int) - ((mkB v).size : Int)))).bind fun t225 => (if t225.size + (mkB v).size ≤ 9223372036854775807 then ((masterdiscref01_Repeat.f k 48 (wrap64 (((t225 ++ mkB v).size : Int) - ((mkB z).size : Int)))).bind fun t226 => (if t226.size + (mkB z).size ≤ 9223372036854775807 then ((masterdiscref21_padded.f k (t226 ++ mkB z) (t225 ++ mkB v) 48).bind fun t227 => (some t227)) else (none))) else (none))) = some (cmpK (verK v 1000) (verK z 1000)) := by
  have hs : ∀ m : Nat, (strOfNums (List.replicate m 48)).size = m := fun m => by rw [nums_size, List.length_replicate]
  simp only [mkB_size]
  rw [wrap_id (by omega) (by omega), rrep_f _ _ (by omega) k (by omega), Option.bind_some]
  rw [hs, if_pos (by omega), ByteArray.size_append, hs, mkB_size, wrap_id (by omega) (by omega), rrep_f _ _ (by omega) k (by omega), Option.bind_some, hs, if_pos (by omega)]
  generalize ha : ((z.length : Int) - (v.length : Int)).toNat = a
  generalize hb : (((a + v.length : Nat) : Int) - (z.length : Int)).toNat = b
  have hm : a + v.length = max v.length z.length := by omega
  have hm2 : b + z.length = max v.length z.length := by omega
  have e : ∀ (m : Nat) (x : List UInt8), (strOfNums (List.replicate m 48) ++ mkB x).data.toList = List.replicate m 48 ++ x := by
    intro m x; rw [ByteArray.data_append, Array.toList_append, rrep_list]; rfl
  have es : ∀ (m : Nat) (x : List UInt8), (strOfNums (List.replicate m 48) ++ mkB x).size = m + x.length := by
    intro m x; rw [ByteArray.size_append, hs, mkB_size]
  have e2 : ∀ (m : Nat) (x : List UInt8), bl2 (List.replicate m 48 ++ x) = List.replicate m (48 : Int) ++ bl2 x := by
    intro m x; unfold bl2; rw [List.map_append, List.map_replicate]; rfl
  rw [padded_f _ _ 48 (by rw [es]; omega) (by rw [es]; omega) k hk, Option.bind_some, e, e]
  have k1 : ∀ (m : Nat) (x : List UInt8), m + x.length = max v.length z.length → keyF (List.replicate m 48 ++ x) 48 1000 = bl2 (List.replicate m 48 ++ x) ++ List.replicate (1000 - max v.length z.length) 48 := by
    intro m x h; unfold keyF; rw [List.length_append, List.length_replicate, h]
  rw [k1 b z hm2, k1 a v hm, cmpK_tail _ _ _ (by rw [bl2_length, bl2_length, List.length_append, List.length_append, List.length_replicate, List.length_replicate]; omega), e2, e2]
  rw [ver_cmp v z (max v.length z.length) (by omega) (by omega) (by omega)]
  rw [show max v.length z.length - z.length = b by omega, show max v.length z.length - v.length = a by omega]
/-- The reference's Compare. -/
theorem rcompare_f (a b : ByteArray) (w : Bool) (ha : a.size ≤ 1000) (hb : b.size ≤ 1000) (k : Nat) (hk : 4010 ≤ k) : ∃ d, masterdiscref21_Compare.f k a b w = some d ∧ sgn d = cmpK (key w a) (key w b) := by
  obtain ⟨k, rfl⟩ : ∃ m, k = m + 1 := ⟨k - 1, by omega⟩
  have ra := rankP_bd a
  have rb := rankP_bd b
  have la : a.data.toList.length = a.size := Array.length_toList
  have lb : b.data.toList.length = b.size := Array.length_toList
  obtain ⟨pa1, pa2, pa3⟩ := parts_len a.data.toList
  obtain ⟨pb1, pb2, pb3⟩ := parts_len b.data.toList
  have hlow : (rankP a < 2 ∨ rankP b < 2) → ∃ d, masterdiscref21_Compare.j0 (k + 1) a b w true = some d ∧ sgn d = cmpK (key w a) (key w b) := by
    intro h
    rw [masterdiscref21_Compare.j0, if_pos rfl, special_f, special_f, Option.bind_some, Option.bind_some, wrap_id (by omega) (by omega)]
    refine ⟨_, rfl, ?_⟩
    rw [sgn_cmpV]
    unfold key
    rw [cmpK]
    rcases cmpV_cases (rankP a) (rankP b) with c | c | c
    · rw [c.2, if_neg (by decide)]
    · rw [c.2, if_pos rfl, rankP_same a b c.1 (by omega), cmpK_self]
    · rw [c.2, if_neg (by decide)]
  unfold masterdiscref21_Compare.f
  rw [special_f, Option.bind_some]
  by_cases h1 : rankP a < 2
  · rw [if_pos h1]; exact hlow (.inl h1)
  · rw [if_neg h1, special_f, Option.bind_some]
    by_cases h2 : rankP b < 2
    · rw [decide_eq_true h2]; exact hlow (.inr h2)
    · rw [decide_eq_false h2, masterdiscref21_Compare.j0, if_neg (by decide)]
      have hk : cmpK (key w a) (key w b) = cmpK (keyR w a) (keyR w b) := by
        unfold key
        rw [cmpK, show rankP a = rankP b by omega, cmpV_self, if_pos rfl]
      rw [hk]
      unfold keyR
      cases w
      · rw [if_neg (by decide), if_neg (by decide), if_neg (by decide), rparts_f a (by omega) k (by omega), rparts_f b (by omega) k (by omega), Option.bind_some, Option.bind_some]
        rw [padded_mk _ _ 32 (by omega) (by omega) k (by omega), Option.bind_some]
        generalize hA : partsL a.data.toList = A at *
        generalize hB : partsL b.data.toList = B at *
        have l1 : (keyF A.1 32 1000).length = (keyF B.1 32 1000).length := by rw [keyF_length _ _ _ (by omega), keyF_length _ _ _ (by omega)]
        have l2 : (keyF A.2.1 32 1000).length = (keyF B.2.1 32 1000).length := by rw [keyF_length _ _ _ (by omega), keyF_length _ _ _ (by omega)]
        rw [cmpK_app _ _ _ _ l1, cmpK_app _ _ _ _ l2]
        by_cases c1 : cmpK (keyF A.1 32 1000) (keyF B.1 32 1000) = 0
        · rw [if_pos c1, if_pos c1, padded_mk _ _ 32 (by omega) (by omega) k (by omega), Option.bind_some]
          by_cases c2 : cmpK (keyF A.2.1 32 1000) (keyF B.2.1 32 1000) = 0
          · rw [if_pos c2, if_pos c2, rver A.2.2 B.2.2 (by omega) (by omega) k (by omega)]
            exact ⟨_, rfl, sgn_cmpK _ _⟩
          · rw [if_neg c2, if_neg c2]
            exact ⟨_, rfl, sgn_cmpK _ _⟩
        · rw [if_neg c1, if_neg c1]
          exact ⟨_, rfl, sgn_cmpK _ _⟩
      · rw [if_pos rfl, if_pos rfl, if_pos rfl, padded_f a b 0 ha hb k (by omega), Option.bind_some]
        exact ⟨_, rfl, sgn_cmpK _ _⟩

/-- DirectoryCompares returns true. -/
theorem compares_true (a b : ByteArray) (w : Bool) : masterdisclaw21_DirectoryCompares.f 5000 a b w = some true := by
  unfold masterdisclaw21_DirectoryCompares.f masterdisclaw21_awake.f
  rw [Option.bind_some, if_pos rfl]
  by_cases h1 : (a.size : Int) > 300
  · rw [if_pos h1, masterdisclaw21_DirectoryCompares.j0, if_pos rfl]
  · rw [if_neg h1]
    by_cases h2 : (b.size : Int) > 300
    · rw [decide_eq_true h2, masterdisclaw21_DirectoryCompares.j0, if_pos rfl]
    · obtain ⟨d, hd, hs⟩ := rcompare_f a b w (by omega) (by omega) 4999 (by decide)
      rw [decide_eq_false h2, masterdisclaw21_DirectoryCompares.j0, if_neg (by decide), compare_f a b w (by omega) (by omega) 4999 (by decide), Option.bind_some, sign_f, Option.bind_some, hd, Option.bind_some, sign_f, Option.bind_some, hs, sgn_cmpK, beq_self_eq_true]

end Go.Proofs.YthblghfobnhoeaaGreat.Q
namespace Go.Proofs.YthblghfobnhoeaaGreat.Q
open Go.RowKit Go.Proofs.YthblghfobnhoeaaGreatW.PrintWords Go.Proofs.YthblghfobnhoeaaGreatW.PrintLast Go.Proofs.YthblghfobnhoeaaGreat.A Go.Proofs.YthblghfobnhoeaaGreat.H
set_option linter.unusedVariables false

/-! The reference's places are the program's. -/
theorem tmod_odd (n : Int) (h : 0 ≤ n) : (Int.tmod n 2 == 1) = !decide (n % 2 = 0) := by
  rw [Int.tmod_eq_emod_of_nonneg h]
  by_cases he : n % 2 = 0
  · simp [he]
  · have : n % 2 = 1 := by omega
    simp [this]
theorem roffs_bad (k : Nat) (x0 x3 : List Int) (x4 x5 : Int) : masterdiscref21_Offsets.j1 (k + 1) x0 x3 x4 x5 true = some [] := by
  rw [masterdiscref21_Offsets.j1, if_pos rfl]
theorem roffs_good (k : Nat) (l acc : List Int) (p : Int) (i : Nat) (hi : i < l.length) (hl : l.length ≤ 10000) (n : Int) (hr : rd l (i : Int) = n) (h0 : 0 ≤ p) (h1 : p ≤ 10000000) (hn : 34 ≤ n ∧ n ≤ 254) (hx : acc.length < 10000000) :
    masterdiscref21_Offsets.j1 (k + 1) l acc p i false = masterdiscref21_Offsets.l0 k l (acc ++ [place p n]) (place p n + n) ((i + 1 : Nat) : Int) := by
  have hm : Int.tmod p 2048 = p % 2048 := Int.tmod_eq_emod_of_nonneg h0
  have hb := place_bd (p := p) (n := n) h0 hn
  have hw : wrap64 ((i : Int) + 1) = ((i + 1 : Nat) : Int) := by rw [wrap_id (by omega) (by omega)]; omega
  have f0 : (0 : Int) ≤ (i : Int) := Int.natCast_nonneg i
  have f1 : (i : Int) < (l.length : Int) := Int.ofNat_lt.2 hi
  have f2 : acc.length < 17592186044416 := by omega
  rw [masterdiscref21_Offsets.j1, if_neg (by decide), if_pos f0, if_pos f1, hm, hr, wrap_id (x := p % 2048 + n) (by omega) (by omega)]
  unfold place at hb ⊢
  by_cases hp : n > 2048 - p % 2048
  · have f3 : p % 2048 + n > 2048 := by omega
    rw [if_pos f3, if_pos f2, hw, wrap_id (x := p - p % 2048) (by omega) (by omega), wrap_id (x := p - p % 2048 + 2048) (by omega) (by omega), wrap_id (by omega) (by omega), if_pos hp]
    rw [show p - p % 2048 + 2048 = p + (2048 - p % 2048) by omega]
  · have f3 : ¬ p % 2048 + n > 2048 := by omega
    rw [if_neg f3, if_pos f2, hw, wrap_id (by omega) (by omega), if_neg hp]
theorem roffs_l (l : List Int) (hl : l.length ≤ 10000) (j : Nat) : ∀ (k i : Nat) (acc : List Int) (p : Int), i + j = l.length → 2 * j + 2 ≤ k → 0 ≤ p → p ≤ 507 * i → acc.length = i →
    masterdiscref21_Offsets.l0 k l acc p (i : Int) = if (l.drop i).all okS = true then some (acc ++ offs p (l.drop i)) else some [] := by
  induction j with
  | zero =>
    intro k i acc p hij hk h0 h1 ha
    obtain ⟨k, rfl⟩ : ∃ m, k = m + 1 := ⟨k - 1, by omega⟩
    rw [masterdiscref21_Offsets.l0, if_neg (by omega), List.drop_of_length_le (by omega)]
    simp [offs]
  | succ j ih =>
    intro k i acc p hij hk h0 h1 ha
    obtain ⟨k, rfl⟩ : ∃ m, k = m + 1 + 1 := ⟨k - 2, by omega⟩
    have hi : i < l.length := by omega
    rw [masterdiscref21_Offsets.l0, if_pos (by omega), if_pos (by omega), rd_nat l i hi, List.drop_eq_getElem_cons hi]
    have hr := rd_nat l i hi
    generalize l[i] = n at hr ⊢
    rw [List.all_cons]
    by_cases c1 : n < 34
    · have hf : okS n = false := by unfold okS; exact decide_eq_false (by omega)
      rw [if_pos c1, roffs_bad, hf]; rfl
    · rw [if_neg c1]
      by_cases c2 : n > 254
      · have hf : okS n = false := by unfold okS; exact decide_eq_false (by omega)
        rw [if_pos c2, roffs_bad, hf]; rfl
      · rw [if_neg c2, tmod_odd n (by omega)]
        by_cases c3 : n % 2 = 0
        · have ht : okS n = true := by unfold okS; exact decide_eq_true (by omega)
          have hb := place_bd (p := p) (n := n) h0 (by omega)
          rw [decide_eq_true c3, ht, Bool.true_and, Bool.not_true, roffs_good k l acc p i hi hl n hr h0 (by omega) (by omega) (by omega)]
          rw [ih k (i + 1) (acc ++ [place p n]) (place p n + n) (by omega) (by omega) (by omega) (by omega) (by rw [List.length_append, List.length_singleton, ha])]
          rw [offs, List.append_assoc, List.singleton_append]
        · have hf : okS n = false := by unfold okS; exact decide_eq_false (by omega)
          rw [decide_eq_false c3, Bool.not_false, roffs_bad, hf]; rfl
theorem roffsets_f (l : List Int) (hl : l.length ≤ 10000) (k : Nat) (hk : 2 * l.length + 2 ≤ k) : masterdiscref21_Offsets.f k l = some (offsB l) := by
  unfold masterdiscref21_Offsets.f offsB
  have := roffs_l l hl l.length k 0 [] 0 (by omega) (by omega) (by omega) (by omega) rfl
  rw [List.drop_zero, List.nil_append] at this
  rw [show ((0 : Nat) : Int) = 0 from rfl] at this
  rw [this]
  split <;> rfl
theorem endOf_app : ∀ (a b : List Int) (p : Int), endOf p (a ++ b) = endOf (endOf p a) b
  | [], _, _ => rfl
  | n :: t, b, p => by rw [List.cons_append, endOf, endOf, endOf_app t b]
theorem offs_app : ∀ (a b : List Int) (p : Int), offs p (a ++ b) = offs p a ++ offs (endOf p a) b
  | [], _, _ => rfl
  | n :: t, b, p => by rw [List.cons_append, offs, offs, endOf, offs_app t b, List.cons_append]
theorem rblocks_f (l : List Int) (hl : l.length ≤ 10000) (k : Nat) (hk : 2 * l.length + 2 ≤ k) : masterdiscref21_Blocks.f k l = some (blocksB l) := by
  unfold masterdiscref21_Blocks.f blocksB
  rw [roffsets_f l hl k hk, Option.bind_some]
  unfold offsB
  by_cases h : l.all okS = true
  · rw [if_pos h, if_pos h, offs_length]
    rcases List.eq_nil_or_concat l with rfl | ⟨t, n, rfl⟩
    · rw [if_pos (show (([] : List Int).length : Int) = 0 from rfl)]; rfl
    · rw [List.concat_eq_append] at *
      have hm := all_mem h
      have hn := (okS_iff n).1 (hm n (by simp))
      have he := endOf_bd t 0 (Int.le_refl _) (fun x hx => hm x (by simp [hx]))
      have hb := place_bd (p := endOf 0 t) (n := n) (by omega) ⟨hn.1, hn.2.1⟩
      have hlen : (t ++ [n]).length = t.length + 1 := by rw [List.length_append]; rfl
      rw [hlen] at hl
      rw [hlen, if_neg (by omega), wrap_id (by omega) (by omega), if_pos (by omega), if_pos (by omega)]
      have hr : rd (offs 0 (t ++ [n])) (((t.length + 1 : Nat) : Int) - 1) = place (endOf 0 t) n := by
        rw [show ((t.length + 1 : Nat) : Int) - 1 = (t.length : Int) by omega, rd_nat _ _ (by rw [offs_length, hlen]; omega)]
        simp only [offs_app, offs]
        rw [List.getElem_append_right (by rw [offs_length]; exact Nat.le_refl _)]
        simp
      rw [hr, Int.tdiv_eq_ediv_of_nonneg (by omega), wrap_id (x := place (endOf 0 t) n / 2048) (by omega) (by omega), wrap_id (by omega) (by omega), endOf_app, endOf, endOf]
      congr 1; omega
  · rw [if_neg h, if_neg h, if_pos (show (([] : List Int).length : Int) = 0 from rfl)]
theorem equal_l (l : List Int) (hl : l.length ≤ 1000000) (j : Nat) : ∀ (k i : Nat), i + j = l.length → j + 1 ≤ k → slices_Equal_int_int.l0 k l l (l.length : Int) (i : Int) = some true := by
  induction j with
  | zero =>
    intro k i hi hk
    obtain ⟨k, rfl⟩ : ∃ m, k = m + 1 := ⟨k - 1, by omega⟩
    rw [slices_Equal_int_int.l0, if_neg (by omega)]
  | succ j ih =>
    intro k i hi hk
    obtain ⟨k, rfl⟩ : ∃ m, k = m + 1 := ⟨k - 1, by omega⟩
    have hw : wrap64 ((i : Int) + 1) = ((i + 1 : Nat) : Int) := by rw [wrap_id (by omega) (by omega)]; omega
    rw [slices_Equal_int_int.l0, if_pos (by omega), if_pos (by omega), if_pos (by omega), if_pos (by omega), if_pos rfl, hw, ih k (i + 1) (by omega) (by omega)]
theorem equal_self (l : List Int) (hl : l.length ≤ 1000000) (k : Nat) (hk : l.length + 1 ≤ k) : slices_Equal_int_int.f k l l = some true := by
  unfold slices_Equal_int_int.f
  rw [if_pos rfl]
  exact equal_l l hl l.length k 0 (by omega) (by omega)
theorem offsB_length (l : List Int) : (offsB l).length ≤ l.length := by
  unfold offsB
  split
  · rw [offs_length]; exact Nat.le_refl _
  · exact Nat.zero_le _
/-- DirectoryPlaces returns true. -/
theorem places_pure : masterdisclaw21_DirectoryPlaces.Pure := by
  intro l _ _ _
  refine ⟨1000, ?_⟩
  unfold masterdisclaw21_DirectoryPlaces.f masterdisclaw21_awake.f
  rw [Option.bind_some, if_pos rfl]
  by_cases h : (l.length : Int) > 300
  · rw [if_pos h]
  · have h3 := offsB_length l
    rw [if_neg h, blocks_f l (by omega) 1000 (by omega), Option.bind_some, rblocks_f l (by omega) 1000 (by omega), Option.bind_some, if_pos rfl, offsets_f l (by omega) 1000 (by omega), Option.bind_some, roffsets_f l (by omega) 1000 (by omega), Option.bind_some, equal_self _ (by omega) 1000 (by omega), Option.bind_some]

end Go.Proofs.YthblghfobnhoeaaGreat.Q
namespace Go.Proofs.YthblghfobnhoeaaGreat.Q
open Go.RowKit Go.Proofs.YthblghfobnhoeaaGreatW.PrintWords Go.Proofs.YthblghfobnhoeaaGreatW.PrintLast Go.Proofs.YthblghfobnhoeaaGreat.A
set_option linter.unusedVariables false

theorem rsize_eq (k : Nat) (a b : Int) : masterdiscref20_Size.f (k + 1) a b = some (sizeV a b) := by
  unfold masterdiscref20_Size.f sizeV
  by_cases h1 : a < 1
  · rw [if_pos h1, if_neg (by omega)]; simp [masterdiscref20_Size.j0]
  · rw [if_neg h1]
    by_cases h2 : a > 254
    · rw [if_pos h2, if_neg (by omega)]; simp [masterdiscref20_Size.j0]
    · rw [if_neg h2]
      by_cases h3 : b < 0
      · rw [if_pos h3, if_neg (by omega)]; simp [masterdiscref20_Size.j0]
      · rw [if_neg h3]
        by_cases h4 : b > 254
        · rw [if_pos h4, if_neg (by omega)]; simp [masterdiscref20_Size.j0]
        · rw [if_neg h4]
          have e : Int.tmod b 2 = b % 2 := Int.tmod_eq_emod_of_nonneg (by omega)
          have ea : Int.tmod a 2 = a % 2 := Int.tmod_eq_emod_of_nonneg (by omega)
          rw [e]
          by_cases h5 : b % 2 = 0
          · rw [if_pos ⟨by omega, by omega, by omega, by omega, h5⟩]
            have e2 : (b % 2 == 1) = false := by rw [h5]; rfl
            rw [e2]
            simp only [masterdiscref20_Size.j0]
            rw [if_neg (by decide), ea]
            rw [wrap_id (x := 33 + a) (by omega) (by omega), wrap_id (x := 33 + a + b) (by omega) (by omega), wrap_id (x := 33 + a + b + 1) (by omega) (by omega)]
            by_cases h6 : a % 2 = 0
            · rw [if_pos h6]
              by_cases h7 : 33 + a + b + 1 > 254
              · rw [if_pos h7, if_neg (by omega)]
              · rw [if_neg h7, if_pos (by omega)]; congr 1; omega
            · rw [if_neg h6]
              by_cases h7 : 33 + a + b > 254
              · rw [if_pos h7, if_neg (by omega)]
              · rw [if_neg h7, if_pos (by omega)]; congr 1; omega
          · rw [if_neg (by omega)]
            have e2 : (b % 2 == 1) = true := by
              have : b % 2 = 1 := by omega
              rw [this]; rfl
            rw [e2]
            simp [masterdiscref20_Size.j0]

end Go.Proofs.YthblghfobnhoeaaGreat.Q
namespace Go.Proofs.YthblghfobnhoeaaGreat.Q
open Go.RowKit Go.Proofs.YthblghfobnhoeaaGreatW.PrintWords Go.Proofs.YthblghfobnhoeaaGreatW.PrintLast Go.Proofs.YthblghfobnhoeaaGreat.A Go.Proofs.YthblghfobnhoeaaGreat.H
set_option linter.unusedVariables false

/-! The reference's dates: the same seven bytes. -/
theorem rleap (y : Int) (h : 0 ≤ y) : masterdiscref16_leap.f y = some (leapB y) := by
  unfold masterdiscref16_leap.f leapB
  have e4 : Int.tmod y 4 = y % 4 := Int.tmod_eq_emod_of_nonneg h
  have e100 : Int.tmod y 100 = y % 100 := Int.tmod_eq_emod_of_nonneg h
  have e400 : Int.tmod y 400 = y % 400 := Int.tmod_eq_emod_of_nonneg h
  rw [e4, e100, e400]
  by_cases h4 : y % 4 = 0
  · rw [if_pos h4, h4]
    by_cases h1 : y % 100 = 0
    · rw [if_pos h1, h1]; simp
    · rw [if_neg h1]; simp [h1]
  · rw [if_neg h4]
    have h400 : (y % 400 == 0) = false := beq_eq_false_iff_ne.2 (by omega)
    have h4b : (y % 4 == 0) = false := beq_eq_false_iff_ne.2 h4
    rw [h400, h4b]; rfl
theorem rdays (y m : Int) (h : 0 ≤ y) : masterdiscref16_days.f y m = some (mdays y m) := by
  unfold masterdiscref16_days.f mdays mlen
  by_cases h2 : m = 2
  · rw [if_pos h2, if_pos h2, rleap y h, Option.bind_some]
    cases leapB y <;> rfl
  · rw [if_neg h2, if_neg h2, if_neg h2]
    split
    · rfl
    · split
      · rfl
      · split
        · rfl
        · split <;> rfl
theorem ryear (y : Int) (h : 0 ≤ y) : masterdiscref16_year.f y = some (ydays y) := by
  unfold masterdiscref16_year.f ydays
  rw [rleap y h, Option.bind_some]
  cases leapB y <;> rfl
theorem rtime (t : Int) : masterdiscref16_Time.f t = some (decide (TimeOk t)) := by
  unfold masterdiscref16_Time.f TimeOk
  by_cases h : t ≥ 315532800
  · rw [if_pos h]; congr 1; exact decide_eq_decide.mpr ⟨fun h2 => ⟨h, h2⟩, fun h2 => h2.2⟩
  · rw [if_neg h]; congr 1; exact (decide_eq_false (fun h2 => h h2.1)).symm
theorem rzone (t : Int) : masterdiscref16_Zone.f t = some (decide (ZoneOk t)) := by
  unfold masterdiscref16_Zone.f ZoneOk
  by_cases h : t ≥ -1440
  · rw [if_pos h]; congr 1; exact decide_eq_decide.mpr ⟨fun h2 => ⟨h, h2⟩, fun h2 => h2.2⟩
  · rw [if_neg h]; congr 1; exact (decide_eq_false (fun h2 => h h2.1)).symm
theorem rquarter (z : Int) : masterdiscref16_Quarter.f z = some (decide (QuarterOk z)) := by
  unfold masterdiscref16_Quarter.f
  by_cases hq : QuarterOk z
  · rw [decide_eq_true hq]
    obtain ⟨q0, q1, q2⟩ := hq
    rw [if_pos q1, if_pos q2, (tmod15 z).2 q0]
    rfl
  · rw [decide_eq_false hq]
    by_cases h : z ≥ -720
    · rw [if_pos h]
      by_cases h1 : z ≤ 780
      · rw [if_pos h1]
        congr 1
        exact beq_eq_false_iff_ne.2 (fun e => hq ⟨(tmod15 z).1 e, h, h1⟩)
      · rw [if_neg h1]
    · rw [if_neg h]

theorem msum_step (y : Int) (a b : Nat) (h : a < b) : msum y a + mdays y (a + 1) ≤ msum y b := by
  have := msum_mono y (a + 1) (b - (a + 1))
  rw [show a + 1 + (b - (a + 1)) = b by omega] at this
  have e : msum y (a + 1) = msum y a + mdays y (a + 1) := rfl
  omega
theorem ysum_step (a b : Nat) (h : a < b) : ysum a + ydays (1970 + a) ≤ ysum b := by
  have := ysum_mono (a + 1) (b - (a + 1))
  rw [show a + 1 + (b - (a + 1)) = b by omega] at this
  have e : ysum (a + 1) = ysum a + ydays (1970 + a) := rfl
  omega

end Go.Proofs.YthblghfobnhoeaaGreat.Q
namespace Go.Proofs.YthblghfobnhoeaaGreat.Q
open Go.RowKit Go.Proofs.YthblghfobnhoeaaGreatW.PrintWords Go.Proofs.YthblghfobnhoeaaGreatW.PrintLast Go.Proofs.YthblghfobnhoeaaGreat.A Go.Proofs.YthblghfobnhoeaaGreat.H
set_option linter.unusedVariables false

/-- The clock that the reference tells of seconds. -/
def rclock (L : Int) (n m : Nat) (d : Int) : Option (Int × Int × Int × Int × Int × Int) := some (1970 + n, (m : Int) + 1, d, L % 86400 / 3600, L / 60 % 60, L % 60)
theorem ru_l1 (L : Int) (hL : 0 ≤ L) (n m : Nat) (d : Int) (hn : n ≤ 1000) (hm : m ≤ 11) (d1 : 1 ≤ d) (d2 : d ≤ mdays (1970 + n) (m + 1)) (j : Nat) :
    ∀ (k i : Nat) (x c2 c3 c4 c5 : Int), i + j = m → j + 1 ≤ k → x = msum (1970 + n) m - msum (1970 + n) i + (d - 1) →
      masterdiscref16_utc.l1 k L x (1970 + n) ((i : Int) + 1) c2 c3 c4 c5 = rclock L n m d := by
  have hb := mdays_bd (1970 + n) (m + 1)
  have hml := msum_le (1970 + n) m
  induction j with
  | zero =>
    intro k i x c2 c3 c4 c5 hi hk hx
    obtain ⟨k, rfl⟩ : ∃ z, k = z + 1 := ⟨k - 1, by omega⟩
    obtain rfl : i = m := by omega
    have e1 : Int.tmod L 86400 = L % 86400 := Int.tmod_eq_emod_of_nonneg hL
    have e2 : Int.tmod L 60 = L % 60 := Int.tmod_eq_emod_of_nonneg hL
    have e3 : Int.tdiv (L % 86400) 3600 = L % 86400 / 3600 := Int.tdiv_eq_ediv_of_nonneg (by omega)
    have e4 : Int.tdiv (L % 86400) 60 = L % 86400 / 60 := Int.tdiv_eq_ediv_of_nonneg (by omega)
    have e5 : Int.tmod (L % 86400 / 60) 60 = L / 60 % 60 := by rw [Int.tmod_eq_emod_of_nonneg (by omega)]; omega
    rw [masterdiscref16_utc.l1, rdays _ _ (by omega), Option.bind_some, if_neg (by omega), e1, e2, e3, e4, wrap_id (x := 1 + x) (by omega) (by omega), wrap_id (x := L % 86400 / 3600) (by omega) (by omega), wrap_id (x := L % 86400 / 60) (by omega) (by omega), e5]
    have ed : 1 + x = d := by omega
    rw [ed]
    rfl
  | succ j ih =>
    intro k i x c2 c3 c4 c5 hi hk hx
    obtain ⟨k, rfl⟩ : ∃ z, k = z + 1 := ⟨k - 1, by omega⟩
    have hs := msum_step (1970 + n) i m (by omega)
    have hbi := mdays_bd (1970 + n) (i + 1)
    have hmi := msum_le (1970 + n) i
    rw [masterdiscref16_utc.l1, rdays _ _ (by omega), Option.bind_some, if_pos (by omega), Option.bind_some, wrap_id (x := x - mdays (1970 + n) (i + 1)) (by omega) (by omega), wrap_id (x := (i : Int) + 1 + 1) (by omega) (by omega)]
    have e : msum (1970 + n) (i + 1) = msum (1970 + n) i + mdays (1970 + n) (i + 1) := rfl
    have := ih k (i + 1) (x - mdays (1970 + n) (i + 1)) c2 c3 c4 c5 (by omega) (by omega) (by rw [e]; omega)
    rw [← this]
    push_cast
    rfl
theorem ru_l0 (L : Int) (hL : 0 ≤ L) (n m : Nat) (d : Int) (hn : n ≤ 1000) (hm : m ≤ 11) (d1 : 1 ≤ d) (d2 : d ≤ mdays (1970 + n) (m + 1)) (j : Nat) :
    ∀ (k i : Nat) (x c2 c3 c4 c5 : Int), i + j = n → j + 14 ≤ k → x = ysum n - ysum i + msum (1970 + n) m + (d - 1) →
      masterdiscref16_utc.l0 k L x (1970 + i) 1 c2 c3 c4 c5 = rclock L n m d := by
  have hb := mdays_bd (1970 + n) (m + 1)
  have hml := msum_le (1970 + n) m
  have h12 := msum_12 (1970 + n)
  have hm2 := msum_step (1970 + n) m 12 (by omega)
  induction j with
  | zero =>
    intro k i x c2 c3 c4 c5 hi hk hx
    obtain ⟨k, rfl⟩ : ∃ z, k = z + 1 := ⟨k - 1, by omega⟩
    obtain rfl : i = n := by omega
    rw [masterdiscref16_utc.l0, ryear _ (by omega), Option.bind_some, if_neg (by omega)]
    have := ru_l1 L hL i m d hn hm d1 d2 m k 0 x c2 c3 c4 c5 (by omega) (by omega) (by rw [hx]; show _ = msum (1970 + (i : Int)) m - 0 + (d - 1); omega)
    exact this
  | succ j ih =>
    intro k i x c2 c3 c4 c5 hi hk hx
    obtain ⟨k, rfl⟩ : ∃ z, k = z + 1 := ⟨k - 1, by omega⟩
    have hs := ysum_step i n (by omega)
    have hyi := ydays_bd (1970 + i)
    have a1 := ysum_le n
    have a2 := ysum_ge i
    rw [masterdiscref16_utc.l0, ryear _ (by omega), Option.bind_some, if_pos (by omega), Option.bind_some, wrap_id (x := x - ydays (1970 + i)) (by omega) (by omega), wrap_id (x := (1970 : Int) + i + 1) (by omega) (by omega)]
    have e : ysum (i + 1) = ysum i + ydays (1970 + i) := rfl
    have := ih k (i + 1) (x - ydays (1970 + i)) c2 c3 c4 c5 (by omega) (by omega) (by rw [e]; omega)
    rw [← this]
    push_cast
    rw [show (1970 : Int) + i + 1 = 1970 + (i + 1) by omega]
theorem rsplit (t z : Int) (ht : TimeOk t) (hz : ZoneOk z) (n m : Nat) (d : Int) (hc : Cal ((t + 60 * z) / 86400) n m d) (hn : n ≤ 131) (k : Nat) (hk : 200 ≤ k) :
    masterdiscref16_Split.f k t z = some ((1970 : Int) + n, (m : Int) + 1, d, (t + 60 * z) % 86400 / 3600, (t + 60 * z) / 60 % 60, (t + 60 * z) % 60, 0) := by
  unfold masterdiscref16_Split.f
  rw [rtime, Option.bind_some, decide_eq_true ht, if_pos rfl, rzone, Option.bind_some, decide_eq_true hz, if_pos rfl]
  obtain ⟨t0, t1⟩ := ht
  obtain ⟨z0, z1⟩ := hz
  rw [wrap_id (x := 60 * z) (by omega) (by omega), wrap_id (x := t + 60 * z) (by omega) (by omega)]
  generalize hL : t + 60 * z = L at hc ⊢
  have l0 : 0 ≤ L := by omega
  unfold masterdiscref16_utc.f
  rw [Int.tdiv_eq_ediv_of_nonneg l0, wrap_id (x := L / 86400) (by omega) (by omega)]
  have hsum := hc.sum
  have h := ru_l0 L l0 n m d (by omega) hc.month hc.day1 hc.day2 n k 0 (L / 86400) 1 0 0 0 (by omega) (by omega) (by rw [← hsum]; show _ = ysum n - 0 + _ + _; omega)
  have e0 : (1970 : Int) + ((0 : Nat) : Int) = 1970 := rfl
  rw [e0] at h
  rw [h]
  rfl
/-- The reference writes a time as the same seven bytes. -/
theorem rrecord_yes (t z : Int) (ht : TimeOk t) (hq : QuarterOk z) (n m : Nat) (d : Int) (hc : Cal ((t + 60 * z) / 86400) n m d) (hn : n ≤ 131) (k : Nat) (hk : 300 ≤ k) :
    masterdiscref16_Record.f k t z = some (strOfNums (dateL n m d (t + 60 * z) z), 0) := by
  have hz : ZoneOk z := ⟨by have := hq.2.1; omega, by have := hq.2.2; omega⟩
  obtain ⟨k, rfl⟩ : ∃ q, k = q + 1 := ⟨k - 1, by omega⟩
  unfold masterdiscref16_Record.f
  rw [rtime, Option.bind_some, decide_eq_true ht, if_pos rfl, rquarter, Option.bind_some, decide_eq_true hq, masterdiscref16_Record.j0, if_neg (by decide), rsplit t z ht hz n m d hc hn k (by omega), Option.bind_some]
  obtain ⟨q0, q1, q2⟩ := hq
  have e3 : Int.tdiv z 15 = z / 15 := Int.tdiv_eq_ediv_of_dvd (Int.dvd_of_emod_eq_zero q0)
  have es : masterdiscref16_signed.f (wrap64 (Int.tdiv z 15)) = some (z / 15 % 256) := by
    unfold masterdiscref16_signed.f
    rw [e3, wrap_id (x := z / 15) (by omega) (by omega), wrap_id (x := z / 15 + 256) (by omega) (by omega), Int.tmod_eq_emod_of_nonneg (by omega)]
    congr 1
    omega
  rw [es, Option.bind_some]
  have e1 : wrap64 (1970 + (n : Int) - 1900) = 70 + n := by rw [wrap_id (by omega) (by omega)]; omega
  show some (strOfNums [(wrap64 (1970 + (n : Int) - 1900)) % 256, _, _, _, _, _, _], 0) = _
  rw [e1]
  rfl
theorem rrecord_no (t z : Int) (h : ¬ (TimeOk t ∧ QuarterOk z)) (k : Nat) (hk : 1 ≤ k) : masterdiscref16_Record.f k t z = some ((⟨#[]⟩ : ByteArray), 2) := by
  obtain ⟨k, rfl⟩ : ∃ q, k = q + 1 := ⟨k - 1, by omega⟩
  unfold masterdiscref16_Record.f
  rw [rtime, Option.bind_some]
  by_cases ht : TimeOk t
  · rw [decide_eq_true ht, if_pos rfl, rquarter, Option.bind_some, decide_eq_false (fun hq => h ⟨ht, hq⟩), masterdiscref16_Record.j0]
    rfl
  · rw [decide_eq_false ht, if_neg (by decide), masterdiscref16_Record.j0, if_pos rfl]

end Go.Proofs.YthblghfobnhoeaaGreat.Q
namespace Go.Proofs.YthblghfobnhoeaaGreat.Q
open Go.RowKit Go.Proofs.YthblghfobnhoeaaGreatW.PrintWords Go.Proofs.YthblghfobnhoeaaGreatW.PrintLast Go.Proofs.YthblghfobnhoeaaGreat.A Go.Proofs.YthblghfobnhoeaaGreat.H
set_option linter.unusedVariables false

/-! The reference's numbers in both byte orders, and its Encode. -/
theorem tdiv256 {x : Int} (h : 0 ≤ x) (h1 : x ≤ 9223372036854775807) : wrap64 (Int.tdiv x 256) = x / 256 := by
  rw [Int.tdiv_eq_ediv_of_nonneg h, wrap_id (by omega) (by omega)]
theorem tmod256 {x : Int} (h : 0 ≤ x) : Int.tmod x 256 % 256 = x % 256 := by
  rw [Int.tmod_eq_emod_of_nonneg h]; omega
theorem rfits4 (k : Nat) (x : Int) (h : 0 ≤ x) (h1 : x < 4294967296) : masterdiscref01_fits.f (k + 5) x 4 = some true := by
  unfold masterdiscref01_fits.f
  rw [if_neg (by omega)]
  rw [masterdiscref01_fits.l0, if_pos (by decide), tdiv256 h (by omega), show wrap64 (0 + 1) = 1 from wrap_id (by decide) (by decide)]
  rw [masterdiscref01_fits.l0, if_pos (by decide), tdiv256 (by omega) (by omega), show wrap64 (1 + 1) = 2 from wrap_id (by decide) (by decide)]
  rw [masterdiscref01_fits.l0, if_pos (by decide), tdiv256 (by omega) (by omega), show wrap64 (2 + 1) = 3 from wrap_id (by decide) (by decide)]
  rw [masterdiscref01_fits.l0, if_pos (by decide), tdiv256 (by omega) (by omega), show wrap64 (3 + 1) = 4 from wrap_id (by decide) (by decide)]
  rw [masterdiscref01_fits.l0, if_neg (by decide)]
  congr 1
  exact beq_iff_eq.2 (by omega)
theorem rfits2 (k : Nat) (x : Int) (h : 0 ≤ x) (h1 : x < 65536) : masterdiscref01_fits.f (k + 3) x 2 = some true := by
  unfold masterdiscref01_fits.f
  rw [if_neg (by omega)]
  rw [masterdiscref01_fits.l0, if_pos (by decide), tdiv256 h (by omega), show wrap64 (0 + 1) = 1 from wrap_id (by decide) (by decide)]
  rw [masterdiscref01_fits.l0, if_pos (by decide), tdiv256 (by omega) (by omega), show wrap64 (1 + 1) = 2 from wrap_id (by decide) (by decide)]
  rw [masterdiscref01_fits.l0, if_neg (by decide)]
  congr 1
  exact beq_iff_eq.2 (by omega)
theorem rbytes4 (k : Nat) (x : Int) (h : 0 ≤ x) (h1 : x < 4294967296) : masterdiscref01_Bytes.f (k + 5) x 4 = some (le4 x) := by
  unfold masterdiscref01_Bytes.f
  rw [masterdiscref01_Bytes.l0, if_pos (by decide), if_pos (by decide), tmod256 h, tdiv256 h (by omega), show wrap64 (0 + 1) = 1 from wrap_id (by decide) (by decide)]
  rw [masterdiscref01_Bytes.l0, if_pos (by decide), if_pos (by simp), tmod256 (by omega), tdiv256 (by omega) (by omega), show wrap64 (1 + 1) = 2 from wrap_id (by decide) (by decide)]
  rw [masterdiscref01_Bytes.l0, if_pos (by decide), if_pos (by simp), tmod256 (by omega), tdiv256 (by omega) (by omega), show wrap64 (2 + 1) = 3 from wrap_id (by decide) (by decide)]
  rw [masterdiscref01_Bytes.l0, if_pos (by decide), if_pos (by simp), tmod256 (by omega), tdiv256 (by omega) (by omega), show wrap64 (3 + 1) = 4 from wrap_id (by decide) (by decide)]
  rw [masterdiscref01_Bytes.l0, if_neg (by decide)]
  unfold le4
  have e1 : x / 256 / 256 = x / 65536 := by omega
  have e2 : x / 65536 / 256 = x / 16777216 := by omega
  rw [e1, e2]
  rfl
theorem rbytes2 (k : Nat) (x : Int) (h : 0 ≤ x) (h1 : x < 65536) : masterdiscref01_Bytes.f (k + 3) x 2 = some (le2 x) := by
  unfold masterdiscref01_Bytes.f
  rw [masterdiscref01_Bytes.l0, if_pos (by decide), if_pos (by decide), tmod256 h, tdiv256 h (by omega), show wrap64 (0 + 1) = 1 from wrap_id (by decide) (by decide)]
  rw [masterdiscref01_Bytes.l0, if_pos (by decide), if_pos (by simp), tmod256 (by omega), tdiv256 (by omega) (by omega), show wrap64 (1 + 1) = 2 from wrap_id (by decide) (by decide)]
  rw [masterdiscref01_Bytes.l0, if_neg (by decide)]
  rfl

theorem le4_bt (n : Int) : bt (le4 n) 0 = n % 256 ∧ bt (le4 n) 1 = n / 256 % 256 ∧ bt (le4 n) 2 = n / 65536 % 256 ∧ bt (le4 n) 3 = n / 16777216 % 256 := by
  have b : ∀ n : Int, 0 ≤ n % 256 := fun n => by omega
  have c : ∀ n : Int, n % 256 ≤ 255 := fun n => by omega
  unfold le4
  exact ⟨bt_nums _ 0 (by simp) (b _) (c _), bt_nums _ 1 (by simp) (b _) (c _), bt_nums _ 2 (by simp) (b _) (c _), bt_nums _ 3 (by simp) (b _) (c _)⟩
theorem le2_bt (n : Int) : bt (le2 n) 0 = n % 256 ∧ bt (le2 n) 1 = n / 256 % 256 := by
  have b : ∀ n : Int, 0 ≤ n % 256 := fun n => by omega
  have c : ∀ n : Int, n % 256 ≤ 255 := fun n => by omega
  unfold le2
  exact ⟨bt_nums _ 0 (by simp) (b _) (c _), bt_nums _ 1 (by simp) (b _) (c _)⟩
theorem rboth4 (x : Int) (h : 0 ≤ x) (h1 : x < 4294967296) (k : Nat) (hk : 20 ≤ k) : masterdiscref20_both.f k x 4 = some (le4 x ++ be4 x) := by
  obtain ⟨k, rfl⟩ : ∃ q, k = q + 10 := ⟨k - 10, by omega⟩
  have hl : masterdiscref01_Little.f (k + 9) x 4 = some (le4 x, 0) := by
    unfold masterdiscref01_Little.f
    rw [if_neg (by decide), decide_eq_false (by decide), masterdiscref01_Little.j0, if_neg (by decide), rfits4 (k + 3) x h h1, Option.bind_some, if_pos rfl, rbytes4 (k + 3) x h h1, Option.bind_some]
  have hv : masterdiscref01_Reverse.f (k + 9) (le4 x) = some (be4 x) := by
    rw [rrev (k + 9) (le4 x) (by rw [le4_len]; decide) (by rw [le4_len]; omega), le4_len]
    obtain ⟨b0, b1, b2, b3⟩ := le4_bt x
    show some (strOfNums [bt (le4 x) 3, bt (le4 x) 2, bt (le4 x) 1, bt (le4 x) 0]) = _
    rw [b0, b1, b2, b3]
    rfl
  unfold masterdiscref20_both.f masterdiscref01_Both.f
  rw [if_neg (by decide), if_neg (by decide), show ((4 : Int) != 4) = false from rfl, masterdiscref01_Both.j0, if_neg (by decide), hl, Option.bind_some]
  show Option.bind (Option.bind (masterdiscref01_Reverse.f (k + 9) (le4 x)) _) _ = _
  rw [hv, Option.bind_some, if_pos (by show (le4 x).size + (be4 x).size ≤ _; rw [le4_len, be4_len]; decide), Option.bind_some]
theorem rboth2 (x : Int) (h : 0 ≤ x) (h1 : x < 65536) (k : Nat) (hk : 20 ≤ k) : masterdiscref20_both.f k x 2 = some (le2 x ++ be2 x) := by
  obtain ⟨k, rfl⟩ : ∃ q, k = q + 10 := ⟨k - 10, by omega⟩
  have hl : masterdiscref01_Little.f (k + 9) x 2 = some (le2 x, 0) := by
    unfold masterdiscref01_Little.f
    rw [if_neg (by decide), decide_eq_false (by decide), masterdiscref01_Little.j0, if_neg (by decide), rfits2 (k + 5) x h h1, Option.bind_some, if_pos rfl, rbytes2 (k + 5) x h h1, Option.bind_some]
  have hv : masterdiscref01_Reverse.f (k + 9) (le2 x) = some (be2 x) := by
    rw [rrev (k + 9) (le2 x) (by rw [le2_len]; decide) (by rw [le2_len]; omega), le2_len]
    obtain ⟨b0, b1⟩ := le2_bt x
    show some (strOfNums [bt (le2 x) 1, bt (le2 x) 0]) = _
    rw [b0, b1]
    rfl
  unfold masterdiscref20_both.f masterdiscref01_Both.f
  rw [if_neg (by decide), if_pos rfl, masterdiscref01_Both.j0, if_neg (by decide), hl, Option.bind_some]
  show Option.bind (Option.bind (masterdiscref01_Reverse.f (k + 9) (le2 x)) _) _ = _
  rw [hv, Option.bind_some, if_pos (by show (le2 x).size + (be2 x).size ≤ _; rw [le2_len, be2_len]; decide), Option.bind_some]

end Go.Proofs.YthblghfobnhoeaaGreat.Q
namespace Go.Proofs.YthblghfobnhoeaaGreat.Q
open Go.RowKit Go.Proofs.YthblghfobnhoeaaGreatW.PrintWords Go.Proofs.YthblghfobnhoeaaGreatW.PrintLast Go.Proofs.YthblghfobnhoeaaGreat.A Go.Proofs.YthblghfobnhoeaaGreat.H
set_option linter.unusedVariables false

/-! The reference's Encode returns what Encode returns. -/
theorem rfits (n m : Int) : masterdiscref20_fits.f n m = some (decide (0 ≤ n ∧ n ≤ m)) := by
  unfold masterdiscref20_fits.f
  by_cases h : n ≥ 0
  · rw [if_pos h]; congr 1; exact decide_eq_decide.mpr ⟨fun h2 => ⟨h, h2⟩, fun h2 => h2.2⟩
  · rw [if_neg h]; congr 1; exact (decide_eq_false (fun h2 => h h2.1)).symm
theorem rec_bytes (a0 : ByteArray) (a1 a2 : Int) (d : ByteArray) (a5 a6 : Int) (t : List UInt8) (n : Int) (T : ByteArray) (hT : T.data.toList = t) :
    (((((((strOfNums [n % 256, 0] ++ (le4 a1 ++ be4 a1)) ++ (le4 a2 ++ be4 a2)) ++ d) ++ strOfNums [a5 % 256, 0, 0]) ++ (le2 a6 ++ be2 a6)) ++ strOfNums [(a0.size : Int) % 256]) ++ a0) ++ T = ⟨(recL a0 a1 a2 d a5 a6 t n).toArray⟩ := by
  apply ByteArray.ext
  apply Array.toList_inj.1
  have s2 : (strOfNums [n % 256, 0]).data.toList = [bz n, 0] := rfl
  have s3 : (strOfNums [a5 % 256, 0, 0]).data.toList = [bz a5, 0, 0] := rfl
  have s1 : (strOfNums [(a0.size : Int) % 256]).data.toList = [bz a0.size] := rfl
  unfold recL encL
  simp only [ByteArray.data_append, Array.toList_append, s1, s2, s3, hT, List.append_assoc, List.cons_append, List.nil_append]

theorem renc_nosize (a0 : ByteArray) (a1 a2 a3 a4 a5 a6 : Int) (a7 : ByteArray) (h : sizeV a0.size a7.size = 0) :
    masterdiscref20_Encode.f 400 a0 a1 a2 a3 a4 a5 a6 a7 = some ((⟨#[]⟩ : ByteArray), if a0.size = 0 ∨ (a7.size : Int) % 2 ≠ 0 then 1 else 7) := by
  unfold masterdiscref20_Encode.f
  by_cases h0 : (a0.size : Int) = 0
  · rw [if_pos h0, if_pos (Or.inl (by omega)), masterdiscref20_Encode.j0, if_pos rfl]
  · rw [if_neg h0]
    by_cases h1 : (a7.size : Int) % 2 = 1
    · rw [show ((a7.size : Int) % 2 == 1) = true from beq_iff_eq.2 h1, if_pos (Or.inr (by omega)), masterdiscref20_Encode.j0, if_pos rfl]
    · rw [show ((a7.size : Int) % 2 == 1) = false from beq_eq_false_iff_ne.2 h1, if_neg (by omega), masterdiscref20_Encode.j0, if_neg (by decide), rsize_eq 398, Option.bind_some, if_pos h]

theorem renc_j1_no (k : Nat) (hk : 1 ≤ k) (x : Int) (d a0 : ByteArray) (a1 a2 a3 a4 a5 a6 : Int) (a7 : ByteArray) : masterdiscref20_Encode.j1 k x d true a0 a1 a2 a3 a4 a5 a6 a7 = some ((⟨#[]⟩ : ByteArray), 2) := by
  obtain ⟨k, rfl⟩ : ∃ q, k = q + 1 := ⟨k - 1, by omega⟩
  rw [masterdiscref20_Encode.j1, if_pos rfl]
theorem renc_bad (a0 : ByteArray) (a1 a2 a3 a4 a5 a6 : Int) (a7 : ByteArray) (h : sizeV a0.size a7.size ≠ 0) (hg : ¬ GoodR a1 a2 a3 a4 a5 a6) :
    masterdiscref20_Encode.f 400 a0 a1 a2 a3 a4 a5 a6 a7 = some ((⟨#[]⟩ : ByteArray), 2) := by
  obtain ⟨_, i0, i1, u0, u1, u2, _, _⟩ := size_bds h
  have hd : ∃ d e, masterdiscref16_Record.f 399 a3 a4 = some (d, e) ∧ (e = 0 → TimeOk a3 ∧ QuarterOk a4) := by
    by_cases hq : TimeOk a3 ∧ QuarterOk a4
    · obtain ⟨n, m, d, _, hc, hn⟩ := record_yes a3 a4 hq.1 hq.2
      exact ⟨_, _, rrecord_yes a3 a4 hq.1 hq.2 n m d hc hn 399 (by decide), fun _ => hq⟩
    · exact ⟨_, _, rrecord_no a3 a4 hq 399 (by decide), fun h => by omega⟩
  obtain ⟨d, e, hd, kd⟩ := hd
  unfold masterdiscref20_Encode.f
  rw [if_neg (by omega), show ((a7.size : Int) % 2 == 1) = false from beq_eq_false_iff_ne.2 (by omega), masterdiscref20_Encode.j0, if_neg (by decide), rsize_eq 398, Option.bind_some, if_neg h, hd, Option.bind_some, rfits, Option.bind_some]
  by_cases f1 : 0 ≤ a1 ∧ a1 ≤ 4294967295
  · rw [decide_eq_true f1, if_pos rfl, rfits, Option.bind_some]
    by_cases f2 : 0 ≤ a2 ∧ a2 ≤ 4294967295
    · rw [decide_eq_true f2, if_pos rfl, rfits, Option.bind_some]
      by_cases f5 : 0 ≤ a5 ∧ a5 ≤ 255
      · rw [decide_eq_true f5, if_pos rfl, rfits, Option.bind_some]
        by_cases f6 : 0 ≤ a6 ∧ a6 ≤ 65535
        · rw [decide_eq_true f6, if_pos rfl]
          have he : e ≠ 0 := fun h0 => hg ⟨⟨f1.1, by omega⟩, ⟨f2.1, by omega⟩, kd h0, f5, ⟨f6.1, by omega⟩⟩
          show masterdiscref20_Encode.j1 399 _ _ (e != 0) _ _ _ _ _ _ _ _ = _
          rw [bne_iff_ne.2 he, renc_j1_no 399 (by decide)]
        · rw [decide_eq_false f6, if_neg (by decide), renc_j1_no 399 (by decide)]
      · rw [decide_eq_false f5, if_neg (by decide), renc_j1_no 399 (by decide)]
    · rw [decide_eq_false f2, if_neg (by decide), renc_j1_no 399 (by decide)]
  · rw [decide_eq_false f1, if_neg (by decide), renc_j1_no 399 (by decide)]

theorem renc_good (a0 : ByteArray) (a1 a2 a3 a4 a5 a6 : Int) (a7 : ByteArray) (h : sizeV a0.size a7.size ≠ 0) (hg : GoodR a1 a2 a3 a4 a5 a6) (n m : Nat) (d : Int) (hc : Cal ((a3 + 60 * a4) / 86400) n m d) (hn : n ≤ 131) :
    masterdiscref20_Encode.f 400 a0 a1 a2 a3 a4 a5 a6 a7 = some (⟨(recL a0 a1 a2 (strOfNums (dateL n m d (a3 + 60 * a4) a4)) a5 a6 (padL a0 ++ a7.data.toList) (sizeV a0.size a7.size)).toArray⟩, 0) := by
  obtain ⟨_, i0, i1, u0, u1, u2, _, _⟩ := size_bds h
  obtain ⟨g1, g2, g3, g5, g6⟩ := hg
  unfold masterdiscref20_Encode.f
  rw [if_neg (by omega), show ((a7.size : Int) % 2 == 1) = false from beq_eq_false_iff_ne.2 (by omega), masterdiscref20_Encode.j0, if_neg (by decide), rsize_eq 398, Option.bind_some, if_neg h, rrecord_yes a3 a4 g3.1 g3.2 n m d hc hn 399 (by decide), Option.bind_some]
  rw [rfits, Option.bind_some, decide_eq_true ⟨g1.1, by omega⟩, if_pos rfl, rfits, Option.bind_some, decide_eq_true ⟨g2.1, by omega⟩, if_pos rfl, rfits, Option.bind_some, decide_eq_true g5, if_pos rfl, rfits, Option.bind_some, decide_eq_true ⟨g6.1, by omega⟩, if_pos rfl]
  show masterdiscref20_Encode.j1 399 _ (strOfNums (dateL n m d (a3 + 60 * a4) a4)) false _ _ _ _ _ _ _ _ = _
  have zd : (strOfNums (dateL n m d (a3 + 60 * a4) a4)).size = 7 := by rw [nums_size]; rfl
  generalize strOfNums (dateL n m d (a3 + 60 * a4) a4) = D at zd ⊢
  generalize hN : sizeV a0.size a7.size = N
  rw [masterdiscref20_Encode.j1, if_neg (by decide), Option.bind_some, rboth4 a1 g1.1 g1.2 398 (by decide), rboth4 a2 g2.1 g2.2 398 (by decide), rboth2 a6 g6.1 g6.2 398 (by decide), Option.bind_some]
  have z2 : (strOfNums [N % 256, 0]).size = 2 := rfl
  have z3 : (strOfNums [a5 % 256, 0, 0]).size = 3 := rfl
  have z1 : (strOfNums [(a0.size : Int) % 256]).size = 1 := rfl
  rw [if_pos (by simp only [ByteArray.size_append, z2, le4_len, be4_len]; omega), Option.bind_some, if_pos (by simp only [ByteArray.size_append, z2, le4_len, be4_len]; omega), if_pos (by simp only [ByteArray.size_append, z2, le4_len, be4_len, zd]; omega), Option.bind_some,
    if_pos (by simp only [ByteArray.size_append, z2, z3, le4_len, be4_len, zd]; omega), Option.bind_some, if_pos (by simp only [ByteArray.size_append, z2, z3, le4_len, be4_len, le2_len, be2_len, zd]; omega), Option.bind_some,
    if_pos (by simp only [ByteArray.size_append, z1, z2, z3, le4_len, be4_len, le2_len, be2_len, zd]; omega), if_pos (by simp only [ByteArray.size_append, z1, z2, z3, le4_len, be4_len, le2_len, be2_len, zd]; omega)]
  unfold padL
  by_cases ho : (a0.size : Int) % 2 = 0
  · rw [if_pos ho, if_pos ho]
    have zz : (⟨#[0]⟩ : ByteArray).size = 1 := rfl
    rw [if_pos (by simp only [ByteArray.size_append, z1, z2, z3, le4_len, be4_len, le2_len, be2_len, zd]; omega), if_pos (by simp only [ByteArray.size_append, z1, z2, z3, zz, le4_len, be4_len, le2_len, be2_len, zd]; omega)]
    have := rec_bytes a0 a1 a2 D a5 a6 ([0] ++ a7.data.toList) N ((⟨#[0]⟩ : ByteArray) ++ a7) (by rw [ByteArray.data_append, Array.toList_append])
    rw [← ByteArray.append_assoc] at this
    rw [this]
  · rw [if_neg ho, if_neg ho]
    rw [if_pos (by simp only [ByteArray.size_append, z1, z2, z3, le4_len, be4_len, le2_len, be2_len, zd]; omega)]
    rw [rec_bytes a0 a1 a2 D a5 a6 ([] ++ a7.data.toList) N a7 rfl]

theorem renc_same (a0 : ByteArray) (a1 a2 a3 a4 a5 a6 : Int) (a7 : ByteArray) (z0 : a0.size ≤ 9223372036854775807) (z7 : a7.size ≤ 9223372036854775807) :
    ∃ r, dirrecord_Encode.f 400 a0 a1 a2 a3 a4 a5 a6 a7 = some r ∧ masterdiscref20_Encode.f 400 a0 a1 a2 a3 a4 a5 a6 a7 = some r := by
  by_cases h : sizeV a0.size a7.size = 0
  · exact ⟨_, enc_nosize a0 a1 a2 a3 a4 a5 a6 a7 z0 z7 h, renc_nosize a0 a1 a2 a3 a4 a5 a6 a7 h⟩
  · by_cases hg : GoodR a1 a2 a3 a4 a5 a6
    · obtain ⟨n, m, d, he, hc, hn⟩ := enc_good a0 a1 a2 a3 a4 a5 a6 a7 h hg
      exact ⟨_, he, renc_good a0 a1 a2 a3 a4 a5 a6 a7 h hg n m d hc hn⟩
    · exact ⟨_, enc_bad a0 a1 a2 a3 a4 a5 a6 a7 h hg, renc_bad a0 a1 a2 a3 a4 a5 a6 a7 h hg⟩
end Go.Proofs.YthblghfobnhoeaaGreat.Q
namespace Go.Proofs.YthblghfobnhoeaaGreat.Q
open Go.RowKit Go.Proofs.YthblghfobnhoeaaGreatW.PrintWords Go.Proofs.YthblghfobnhoeaaGreatW.PrintLast Go.Proofs.YthblghfobnhoeaaGreat.A Go.Proofs.YthblghfobnhoeaaGreat.H
set_option linter.unusedVariables false

/-! The reference's Encode returns the same. -/
theorem renc_K (x : Dr) (h : SmallR x) (k : Nat) (hk : 400 ≤ k) : masterdiscref20_Encode.f k x.f0 x.f1 x.f2 x.f3 x.f4 x.f5 x.f6 x.f7 = some (encR x) := by
  obtain ⟨r, h1, h2⟩ := renc_same x.f0 x.f1 x.f2 x.f3 x.f4 x.f5 x.f6 x.f7 (by have := h.1; omega) (by have := h.2; omega)
  have h3 := enc400 x h
  unfold encK at h3
  rw [h1] at h3
  rw [h3] at h2
  exact lift_le (fun k => masterdiscref20_Encode.mono _ _ _ _ _ _ _ _ k) hk h2
theorem renc_l0 (l : List Dr) (hl : l.length ≤ 1100) (hz : ∀ x ∈ l, SmallR x) (j : Nat) : ∀ (k i : Nat) (R : List ByteArray) (S : List Int), i + j = l.length → j + 402 ≤ k → R.length = i → S.length = i →
    masterdiscref21_Encode.l0 k l R S (i : Int) = match bad? (l.drop i) with
      | some x => some (⟨#[]⟩, (encR x).2)
      | none => masterdiscref21_Encode.l0 (k - j) l (R ++ codes (l.drop i)) (S ++ sizesOf (codes (l.drop i))) (l.length : Int) := by
  induction j with
  | zero =>
    intro k i R S hij hk hR hS
    rw [List.drop_of_length_le (by omega)]
    simp only [bad?, List.find?_nil, codes, sizesOf, List.map_nil, List.append_nil, Nat.sub_zero]
    rw [show i = l.length by omega]
  | succ j ih =>
    intro k i R S hij hk hR hS
    obtain ⟨k, rfl⟩ : ∃ m, k = m + 1 := ⟨k - 1, by omega⟩
    have hi : i < l.length := by omega
    have hw : wrap64 ((i : Int) + 1) = ((i + 1 : Nat) : Int) := by rw [wrap_id (by omega) (by omega)]; omega
    rw [masterdiscref21_Encode.l0, if_pos (by omega), if_pos (by omega), rd_rec l i hi, List.drop_eq_getElem_cons hi]
    have hx := hz l[i] (List.getElem_mem hi)
    generalize l[i] = x at hx
    rw [renc_K x hx k (by omega), Option.bind_some]
    by_cases h0 : (encR x).2 = 0
    · have hb : bad? (x :: l.drop (i + 1)) = bad? (l.drop (i + 1)) := by
        unfold bad?
        rw [List.find?_cons, h0]; rfl
      rw [if_pos h0, if_pos (by omega), if_pos (by omega), hw, ih k (i + 1) _ _ (by omega) (by omega) (by rw [List.length_append, hR]; rfl) (by rw [List.length_append, hS]; rfl), hb, Nat.add_sub_add_right]
      simp only [codes, sizesOf, List.map_cons, List.append_assoc, List.singleton_append]
    · have hb : bad? (x :: l.drop (i + 1)) = some x := by
        unfold bad?
        rw [List.find?_cons, show (!((encR x).2 == 0)) = true by simp [h0]]
      rw [if_neg h0, hb]
theorem rrep_zero (n : Int) (h0 : 0 ≤ n) (hn : n ≤ 100000) (k : Nat) (hk : 100001 ≤ k) : masterdiscref01_Repeat.f k 0 n = some (mkB (zb n)) := by
  rw [rrep_f 0 n hn k (by omega)]
  congr 1
  apply ba_ext
  rw [strOfNums_data, List.map_replicate]; rfl
theorem renc_l1 (R : List ByteArray) (hR : R.length ≤ 1100) (hok : ∀ n ∈ sizesOf R, okS n = true) (S : List Int) (hS : S = sizesOf R) (j : Nat) : ∀ (k i : Nat) (X : ByteArray), i + j = R.length → j + 100010 ≤ k → X.data.toList = lay 0 (R.take i) →
    masterdiscref21_Encode.l1 k R S (offs 0 S) X (i : Int) = some (⟨(lay 0 R ++ List.replicate ((endOf 0 S + 2047) / 2048 * 2048 - endOf 0 S).toNat 0).toArray⟩, 0) := by
  subst hS
  have hSl : (sizesOf R).length = R.length := List.length_map _
  have hol : (offs 0 (sizesOf R)).length = R.length := by rw [offs_length, hSl]
  have hall : (sizesOf R).all okS = true := List.all_eq_true.2 hok
  have heR := endOf_bd (sizesOf R) 0 (Int.le_refl _) hok
  induction j with
  | zero =>
    intro k i X hij hk hX
    obtain ⟨k, rfl⟩ : ∃ m, k = m + 1 := ⟨k - 1, by omega⟩
    rw [List.take_of_length_le (by omega)] at hX
    have hXs : (X.size : Int) = endOf 0 (sizesOf R) := by
      have := lay_length R 0 (Int.le_refl _) hok
      rw [← hX, Array.length_toList] at this
      have e : (X.data.size : Int) = X.size := rfl
      omega
    rw [masterdiscref21_Encode.l1, if_neg (by omega), rblocks_f _ (by omega) k (by omega), Option.bind_some, blocksB, if_pos hall, hXs]
    rw [wrap_id (x := (endOf 0 (sizesOf R) + 2047) / 2048 * 2048) (by omega) (by omega), wrap_id (by omega) (by omega), rrep_zero _ (by omega) (by omega) k (by omega), Option.bind_some]
    have hzl : (mkB (zb ((endOf 0 (sizesOf R) + 2047) / 2048 * 2048 - endOf 0 (sizesOf R)))).size = ((endOf 0 (sizesOf R) + 2047) / 2048 * 2048 - endOf 0 (sizesOf R)).toNat := by rw [mkB_size]; unfold zb; rw [List.length_replicate]
    rw [hzl, if_pos (by omega)]
    congr 2
    apply ba_ext
    rw [ByteArray.data_append, Array.toList_append, hX]; rfl
  | succ j ih =>
    intro k i X hij hk hX
    obtain ⟨k, rfl⟩ : ∃ m, k = m + 1 := ⟨k - 1, by omega⟩
    have hi : i < R.length := by omega
    have hw : wrap64 ((i : Int) + 1) = ((i + 1 : Nat) : Int) := by rw [wrap_id (by omega) (by omega)]; omega
    have htk : sizesOf (R.take i) = (sizesOf R).take i := List.map_take ..
    have hXl : (X.size : Int) = endOf 0 ((sizesOf R).take i) := by
      have h1 := lay_length (R.take i) 0 (Int.le_refl _) (fun n hn => hok n (by rw [htk] at hn; exact List.mem_of_mem_take hn))
      rw [← hX, htk, Array.length_toList] at h1
      have e : (X.data.size : Int) = X.size := rfl
      omega
    have hgs : (sizesOf R)[i]'(by omega) = (R[i].size : Int) := List.getElem_map _
    have hn := (okS_iff _).1 (hok (R[i].size : Int) (by rw [← hgs]; exact List.getElem_mem _))
    have he := endOf_bd ((sizesOf R).take i) 0 (Int.le_refl _) (fun n hn => hok n (List.mem_of_mem_take hn))
    have hlen : ((sizesOf R).take i).length ≤ 1100 := by rw [List.length_take]; omega
    have hrd : rd (offs 0 (sizesOf R)) (i : Int) = place X.size R[i].size := by
      rw [rd_nat _ _ (by omega), offs_get _ _ _ (by omega), hgs, hXl]
    have hb := place_bd (p := X.size) (n := R[i].size) (by omega) ⟨hn.1, hn.2.1⟩
    have f0 : (0 : Int) ≤ (i : Int) := Int.natCast_nonneg i
    have f1 : (i : Int) < ((offs 0 (sizesOf R)).length : Int) := by rw [hol]; exact Int.ofNat_lt.2 hi
    have f2 : (i : Int) < (R.length : Int) := Int.ofNat_lt.2 hi
    have hXb : X.size ≤ 600000 := by omega
    rw [masterdiscref21_Encode.l1, if_pos f2, if_pos f0, if_pos f1, hrd, wrap_id (by omega) (by omega), rrep_zero _ (by omega) (by omega) k (by omega), Option.bind_some, rdOf_nat R i hi, hw]
    have hzl : (mkB (zb (place X.size R[i].size - X.size))).size = (place X.size R[i].size - X.size).toNat := by rw [mkB_size]; unfold zb; rw [List.length_replicate]
    have f3 : X.size + (mkB (zb (place X.size R[i].size - X.size))).size ≤ 9223372036854775807 := by rw [hzl]; omega
    have f4 : (X ++ mkB (zb (place X.size R[i].size - X.size))).size + R[i].size ≤ 9223372036854775807 := by rw [ByteArray.size_append, hzl]; omega
    rw [if_pos f3, if_pos f4]
    refine ih k (i + 1) _ (by omega) (by omega) ?_
    rw [List.take_succ_eq_append_getElem hi, lay_snoc, ← hX, htk, ← hXl, ByteArray.data_append, ByteArray.data_append, Array.toList_append, Array.toList_append, List.append_assoc]
    rfl
theorem rencode_f (l : List Dr) (hz : ∀ x ∈ l, SmallR x ∨ l.length > 1024) (k : Nat) (hk : 105000 ≤ k) : masterdiscref21_Encode.f k l = some (dirL l) := by
  unfold masterdiscref21_Encode.f dirL
  by_cases h : l.length > 1024
  · rw [if_pos (by omega), if_pos h]
  · rw [if_neg (by omega), if_neg h]
    have hz : ∀ x ∈ l, SmallR x := fun x hx => (hz x hx).elim id (fun h2 => absurd h2 h)
    have h0 := renc_l0 l (by omega) hz l.length k 0 [] [] (by omega) (by omega) rfl rfl
    rw [List.drop_zero] at h0
    rw [show ((0 : Nat) : Int) = 0 from rfl] at h0
    rw [h0]
    rcases hb : bad? l with _ | x
    · simp only [List.nil_append]
      have hok := codes_ok hz hb
      have hcl : (codes l).length = l.length := List.length_map _
      have hsl : (sizesOf (codes l)).length = l.length := by unfold sizesOf; rw [List.length_map, hcl]
      have hall : (sizesOf (codes l)).all okS = true := List.all_eq_true.2 hok
      obtain ⟨k2, hk2⟩ : ∃ m, k - l.length = m + 1 := ⟨k - l.length - 1, by omega⟩
      rw [hk2, masterdiscref21_Encode.l0, if_neg (by omega), roffsets_f _ (by omega) k2 (by omega), Option.bind_some, offsB, if_pos hall]
      have := renc_l1 (codes l) (by omega) hok _ rfl (codes l).length k2 0 ⟨#[]⟩ (by omega) (by omega) rfl
      rw [show ((0 : Nat) : Int) = 0 from rfl] at this
      exact this
    · rfl
/-! ### Small, and the law -/
def smallB (l : List Dr) (m : Nat) : Bool := decide (l.length ≤ m) && l.all fun x => decide (x.f0.size ≤ 300) && decide (x.f7.size ≤ 300)
theorem small_l (l : List Dr) (hl : l.length ≤ 100000) (j : Nat) : ∀ (k i : Nat), i + j = l.length → j + 1 ≤ k → masterdiscref21_Small.l0 k l (i : Int) = some ((l.drop i).all fun x => decide (x.f0.size ≤ 300) && decide (x.f7.size ≤ 300)) := by
  induction j with
  | zero =>
    intro k i hi hk
    obtain ⟨k, rfl⟩ : ∃ m, k = m + 1 := ⟨k - 1, by omega⟩
    rw [masterdiscref21_Small.l0, if_neg (by omega), List.drop_of_length_le (by omega)]; rfl
  | succ j ih =>
    intro k i hi hk
    obtain ⟨k, rfl⟩ : ∃ m, k = m + 1 := ⟨k - 1, by omega⟩
    have hil : i < l.length := by omega
    have hw : wrap64 ((i : Int) + 1) = ((i + 1 : Nat) : Int) := by rw [wrap_id (by omega) (by omega)]; omega
    rw [masterdiscref21_Small.l0, if_pos (by omega), if_pos (by omega), rd_rec l i hil, List.drop_eq_getElem_cons hil, List.all_cons]
    generalize l[i] = x
    by_cases h1 : x.f0.size ≤ 300
    · rw [if_neg (by omega), decide_eq_true h1, Bool.true_and]
      by_cases h2 : x.f7.size ≤ 300
      · rw [if_neg (by omega), decide_eq_true h2, Bool.true_and, hw, ih k (i + 1) (by omega) (by omega)]
      · rw [if_pos (by omega), decide_eq_false h2]; rfl
    · rw [if_pos (by omega), decide_eq_false h1]; rfl
theorem small_f (l : List Dr) (m : Nat) (hm : m ≤ 1000) (k : Nat) (hk : m + 1 ≤ k) : masterdiscref21_Small.f k l (m : Int) = some (smallB l m) := by
  unfold masterdiscref21_Small.f smallB
  by_cases h : l.length ≤ m
  · have := small_l l (by omega) l.length k 0 (by omega) (by omega)
    rw [List.drop_zero] at this
    rw [if_neg (by omega), decide_eq_true h, Bool.true_and]
    exact this
  · rw [if_pos (by omega), decide_eq_false h]; rfl
theorem smallB_mem {l : List Dr} {m : Nat} (h : smallB l m = true) : l.length ≤ m ∧ ∀ x ∈ l, x.f0.size ≤ 300 ∧ x.f7.size ≤ 300 := by
  unfold smallB at h
  rw [Bool.and_eq_true, decide_eq_true_iff, List.all_eq_true] at h
  refine ⟨h.1, fun x hx => ?_⟩
  have := h.2 x hx
  rw [Bool.and_eq_true, decide_eq_true_iff, decide_eq_true_iff] at this
  exact this
/-- DirectoryEncodes returns true. -/
theorem encodes21 (l : List Dr) : masterdisclaw21_DirectoryEncodes.f 110000 l = some true := by
  unfold masterdisclaw21_DirectoryEncodes.f masterdisclaw21_awake.f
  rw [Option.bind_some, if_pos rfl]
  have hs := small_f l 60 (by decide) 110000 (by decide)
  rw [show ((60 : Nat) : Int) = 60 from rfl] at hs
  rw [hs, Option.bind_some]
  have go : (∀ x ∈ l, SmallR x ∨ l.length > 1024) → masterdisclaw21_DirectoryEncodes.j0 110000 l false = some true := by
    intro h
    rw [masterdisclaw21_DirectoryEncodes.j0, if_neg (by decide), encode_f l h 109999 (by decide), Option.bind_some, rencode_f l h 109999 (by decide), Option.bind_some, if_pos rfl, beq_self_eq_true]
  cases hb : smallB l 60
  · rw [if_neg (by decide)]
    by_cases h : l.length ≤ 1024
    · rw [decide_eq_true (by omega), masterdisclaw21_DirectoryEncodes.j0, if_pos rfl]
    · rw [decide_eq_false (by omega)]
      exact go (fun x _ => .inr (by omega))
  · rw [if_pos rfl]
    have hm := smallB_mem hb
    exact go (fun x hx => .inl ⟨by have := (hm.2 x hx).1; omega, by have := (hm.2 x hx).2; omega⟩)

end Go.Proofs.YthblghfobnhoeaaGreat.Q
namespace Go.Proofs.YthblghfobnhoeaaGreat.Q
open Go.RowKit Go.Proofs.YthblghfobnhoeaaGreatW.PrintWords Go.Proofs.YthblghfobnhoeaaGreatW.PrintLast Go.Proofs.YthblghfobnhoeaaGreat.A Go.Proofs.YthblghfobnhoeaaGreat.H
set_option linter.unusedVariables false

/-! DirectoryReturns. -/
theorem same_l (l : List Dr) (hl : l.length ≤ 100000) (j : Nat) : ∀ (k i : Nat), i + j = l.length → j + 1 ≤ k → masterdiscref21_Same.l0 k l l (i : Int) = some true := by
  induction j with
  | zero =>
    intro k i hi hk
    obtain ⟨k, rfl⟩ : ∃ m, k = m + 1 := ⟨k - 1, by omega⟩
    rw [masterdiscref21_Same.l0, if_neg (by omega)]
  | succ j ih =>
    intro k i hi hk
    obtain ⟨k, rfl⟩ : ∃ m, k = m + 1 := ⟨k - 1, by omega⟩
    have hw : wrap64 ((i : Int) + 1) = ((i + 1 : Nat) : Int) := by rw [wrap_id (by omega) (by omega)]; omega
    rw [masterdiscref21_Same.l0, if_pos (by omega), if_pos (by omega), if_pos (by omega)]
    simp only [beq_self_eq_true, Bool.not_true, Bool.or_self, Bool.false_eq_true, if_false]
    rw [hw, ih k (i + 1) (by omega) (by omega)]
theorem same_self (l : List Dr) (hl : l.length ≤ 100000) (k : Nat) (hk : l.length + 1 ≤ k) : masterdiscref21_Same.f k l l = some true := by
  unfold masterdiscref21_Same.f
  rw [if_pos rfl]
  exact same_l l hl l.length k 0 (by omega) (by omega)
theorem repeat_zeros (n : Int) (h0 : 0 ≤ n) (h : n ≤ 1000000) : strings_Repeat.f (⟨#[0]⟩ : ByteArray) n = some (mkB (List.replicate n.toNat 0)) := by
  unfold strings_Repeat.f
  rw [if_pos ⟨h0, h, by decide⟩]
  have e : (⟨#[0]⟩ : ByteArray).data.toList = [0] := rfl
  have : ∀ m, Lib.repeatL [0] m = List.replicate m (0 : UInt8) := by
    intro m
    induction m with
    | zero => rfl
    | succ m ih => rw [Lib.repeatL, ih]; rfl
  rw [e, this]; rfl
/-- What stands behind the sizes. -/
def tailB (k : Nat) (l : List Dr) (m : Int) (s : ByteArray) (S : List Int) : Option Bool := masterdisclaw21_DirectoryReturns.l0 k l m s S l (l.length : Int) (l.length : Int)
theorem rets_l (l : List Dr) (hl : l.length ≤ 60) (hc : ∀ x ∈ l, Coded x) (m : Int) (s : ByteArray) (j : Nat) : ∀ (k i : Nat), i + j = l.length → j + 1 ≤ k →
    masterdisclaw21_DirectoryReturns.l0 k l m s ((sizesOf (codes l)).take i) l (l.length : Int) (i : Int) = tailB (k - j) l m s (sizesOf (codes l)) := by
  have hcl : (codes l).length = l.length := List.length_map _
  have hsl : (sizesOf (codes l)).length = l.length := by unfold sizesOf; rw [List.length_map, hcl]
  induction j with
  | zero =>
    intro k i hi hk
    rw [List.take_of_length_le (by omega), show i = l.length by omega]; rfl
  | succ j ih =>
    intro k i hi hk
    obtain ⟨k, rfl⟩ : ∃ m, k = m + 1 := ⟨k - 1, by omega⟩
    have hil : i < l.length := by omega
    have hw : wrap64 ((i : Int) + 1) = ((i + 1 : Nat) : Int) := by rw [wrap_id (by omega) (by omega)]; omega
    rw [masterdisclaw21_DirectoryReturns.l0, if_pos (by omega), if_pos (by omega), if_pos (by omega), rd_rec l i hil]
    have hx := hc l[i] (List.getElem_mem hil)
    have hg : (sizesOf (codes l))[i]'(by omega) = sizeV l[i].f0.size l[i].f7.size := by
      rw [← hx.size]
      unfold sizesOf codes
      rw [List.getElem_map, List.getElem_map]
    obtain ⟨k, rfl⟩ : ∃ m, k = m + 1 := ⟨k - 1, by omega⟩
    rw [rsize_eq, Option.bind_some, if_pos (by rw [List.length_take]; omega), hw, ← hg, ← List.take_succ_eq_append_getElem (by omega), ih (k + 1) (i + 1) (by omega) (by omega), Nat.add_sub_add_right]
theorem tail_true (k : Nat) (hk : 140001 ≤ k) (l : List Dr) (hl : l.length ≤ 60) (hc : ∀ x ∈ l, Coded x) (m : Int) (hm : 0 ≤ m) (hm2 : m ≤ 255) (s : ByteArray)
    (hs : s.data.toList = lay 0 (codes l) ++ List.replicate ((endOf 0 (sizesOf (codes l)) + 2047) / 2048 * 2048 - endOf 0 (sizesOf (codes l))).toNat 0) : tailB k l m s (sizesOf (codes l)) = some true := by
  obtain ⟨k, rfl⟩ : ∃ m, k = m + 1 := ⟨k - 1, by omega⟩
  have hok : ∀ n ∈ sizesOf (codes l), okS n = true := by
    intro n hn
    simp only [sizesOf, codes, List.mem_map] at hn
    obtain ⟨s, ⟨x, hx, rfl⟩, rfl⟩ := hn
    exact (hc x hx).ok
  have hcl : (codes l).length = l.length := List.length_map _
  have hsl : (sizesOf (codes l)).length = l.length := by unfold sizesOf; rw [List.length_map, hcl]
  have hall : (sizesOf (codes l)).all okS = true := List.all_eq_true.2 hok
  have he := endOf_bd (sizesOf (codes l)) 0 (Int.le_refl _) hok
  have hll := lay_length (codes l) 0 (Int.le_refl _) hok
  have hsz : (s.size : Int) = (endOf 0 (sizesOf (codes l)) + 2047) / 2048 * 2048 := by
    have h1 := congrArg List.length hs
    rw [size_list, List.length_append, List.length_replicate] at h1
    omega
  unfold tailB
  rw [masterdisclaw21_DirectoryReturns.l0, if_neg (by omega)]
  have hmm : Int.tmod m 3 = m % 3 := Int.tmod_eq_emod_of_nonneg hm
  rw [hmm, wrap_id (x := m % 3) (by omega) (by omega), wrap_id (by omega) (by omega), repeat_zeros _ (by omega) (by omega), Option.bind_some]
  generalize hz : (m % 3 * 2048).toNat = z
  have hz2 : z % 2048 = 0 ∧ z ≤ 4096 := by omega
  have hrs : (mkB (List.replicate z 0)).size = z := by rw [mkB_size, List.length_replicate]
  rw [hrs, if_pos (by omega)]
  have hd := decode_f l (by omega) hc (((endOf 0 (sizesOf (codes l)) + 2047) / 2048 * 2048 - endOf 0 (sizesOf (codes l))).toNat + z) (s ++ mkB (List.replicate z 0)) (by
    rw [ByteArray.data_append, Array.toList_append, hs, mkB_list, List.append_assoc, List.replicate_append_replicate]) (by rw [ByteArray.size_append, hrs]; omega) (by rw [ByteArray.size_append, hrs]; omega) k (by omega)
  rw [hd, Option.bind_some, if_pos rfl, if_pos (by omega), blocks_f _ (by omega) k (by omega), Option.bind_some, blocksB, if_pos hall, wrap_id (by omega) (by omega), if_pos hsz, same_self l (by omega) k (by omega), Option.bind_some, if_pos rfl,
    offsets_f _ (by omega) k (by omega), Option.bind_some, offsB, if_pos hall, equal_self _ (by rw [offs_length]; omega) k (by rw [offs_length]; omega), Option.bind_some]
theorem returns21 (l : List Dr) (m : Int) (hm : 0 ≤ m) (hm2 : m ≤ 255) : masterdisclaw21_DirectoryReturns.f 145000 l m = some true := by
  unfold masterdisclaw21_DirectoryReturns.f masterdisclaw21_awake.f
  rw [Option.bind_some, if_pos rfl]
  have hs := small_f l 60 (by decide) 145000 (by decide)
  rw [show ((60 : Nat) : Int) = 60 from rfl] at hs
  rw [hs, Option.bind_some]
  cases hb : smallB l 60
  · rw [if_neg (by decide)]
  · rw [if_pos rfl]
    obtain ⟨hl, hx⟩ := smallB_mem hb
    have hz : ∀ x ∈ l, SmallR x := fun x h => ⟨by have := (hx x h).1; omega, by have := (hx x h).2; omega⟩
    rw [encode_f l (fun x h => .inl (hz x h)) 145000 (by decide), Option.bind_some]
    rcases hbad : bad? l with _ | x
    · have hc : ∀ x ∈ l, Coded x := fun x h => coded_of x (hz x h) (bad_none hbad x h)
      have h := rets_l l hl hc m ⟨(lay 0 (codes l) ++ List.replicate ((endOf 0 (sizesOf (codes l)) + 2047) / 2048 * 2048 - endOf 0 (sizesOf (codes l))).toNat 0).toArray⟩ l.length 145000 0 (by omega) (by omega)
      rw [List.take_zero] at h
      rw [show ((0 : Nat) : Int) = 0 from rfl] at h
      have hd : dirL l = (⟨(lay 0 (codes l) ++ List.replicate ((endOf 0 (sizesOf (codes l)) + 2047) / 2048 * 2048 - endOf 0 (sizesOf (codes l))).toNat 0).toArray⟩, 0) := by
        unfold dirL
        rw [if_neg (by omega), hbad]
      rw [hd]
      show (if (0 : Int) = 0 then _ else _) = some true
      rw [if_pos rfl, h]
      exact tail_true _ (by omega) l hl hc m hm hm2 _ rfl
    · have hx2 : (encR x).2 ≠ 0 := by
        have := List.find?_some hbad
        simpa using this
      have hd : dirL l = (⟨#[]⟩, (encR x).2) := by
        unfold dirL
        rw [if_neg (by omega), hbad]
      rw [hd]
      show (if (encR x).2 = 0 then _ else _) = some true
      rw [if_neg hx2]
      have he : (⟨#[]⟩ : ByteArray).toList = [] := by rw [Lib.toList_data]
      show some ((⟨#[]⟩ : ByteArray).toList == ([] : List UInt8)) = some true
      rw [he]; rfl

end Go.Proofs.YthblghfobnhoeaaGreat.Q
