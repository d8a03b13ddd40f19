-- Written by a program of this session's, hprint.py, out of the translation. Not trusted: Lean checks it.
import Derived.Test.YtmmghiecjhfijaaZx0
import Derived.Test.YtmmghiecjhfijaaZx1
import Derived.Test.YtmmghiecjhfijaaZx6
import Derived.Test.YtmmghiecjhfijaaH2d
import Derived.Test.YtmmghiecjhfijaaH3
namespace Go.Proofs.Ytmmghiecjhfijaa.Z
open Go.RowKit Go.Proofs.Ytmmghiecjhfijaa.H Go.Proofs.YtmmghiecjhfijaaW.PrintWords Go.Proofs.YtmmghiecjhfijaaW.PrintLast Go.Proofs.YtmmghiecjhfijaaW.PrintMore
attribute [local go_sem] max2_int min2_int max_two min_two max_three min_three max_four min_four   -- for this text's walks alone
set_option linter.unusedVariables false
set_option linter.unusedSimpArgs false

/-! ### masterdisclaw20_DirrecordSizes: function 8 -/
mutual
def masterdisclaw20_DirrecordSizes.j0 : Nat → Int → Int → Int → Bool → Option (Bool)
  | 0, _, _, _, _ => none
  | k + 1, x5, x6, x7, x61 => if x61 = true then (some false) else (if x7 = 0 then (masterdisclaw20_DirrecordSizes.j1 k x5 x6 x7 true) else (masterdisclaw20_DirrecordSizes.j1 k x5 x6 x7 (decide (x7 > 252))))
def masterdisclaw20_DirrecordSizes.j1 : Nat → Int → Int → Int → Bool → Option (Bool)
  | 0, _, _, _, _ => none
  | k + 1, x5, x6, x7, x67 => if x67 = true then (some true) else ((dirrecord_Size.f k x5 (wrap64 (x6 + 2))).bind fun t177 => (if t177 = (wrap64 (x7 + 2)) then ((dirrecord_Size.f k (wrap64 (x5 + 2)) x6).bind fun t178 => (if t178 = (wrap64 (x7 + 2)) then (if (Int.tmod x5 2) = 1 then (some true) else ((dirrecord_Size.f k (wrap64 (x5 + 1)) x6).bind fun t179 => (some (t179 == x7)))) else (some false))) else (some false)))
end
def masterdisclaw20_DirrecordSizes.f (k : Nat) (a0 : Int) (a1 : Int) : Option (Bool) := (masterdisclaw20_awake.f).bind fun t158 => (if t158 = true then ((dirrecord_Size.f k (wrap64 (a0)) (wrap64 (a1))).bind fun t159 => ((masterdisclaw20_example.f).bind fun bt160 => (if 0 ≤ (wrap64 (a0)) then (if (wrap64 (a0) : Int).toNat ≤ 281474976710656 then (if 0 ≤ (wrap64 (a1)) then (if (wrap64 (a1) : Int).toNat ≤ 281474976710656 then ((dirrecord_Encode.f k (strOfNums (List.replicate (wrap64 (a0) : Int).toNat 0)) bt160.2.1 bt160.2.2.1 bt160.2.2.2.1 bt160.2.2.2.2.1 bt160.2.2.2.2.2.1 bt160.2.2.2.2.2.2.1 (strOfNums (List.replicate (wrap64 (a1) : Int).toNat 0))).bind fun bt175 => (if ((bt175.2 == 0) != (decide (t159 > 0))) = true then (masterdisclaw20_DirrecordSizes.j0 k (wrap64 (a0)) (wrap64 (a1)) t159 true) else (if (bt175.1.size : Int) = t159 then (if (Int.tmod t159 2) = 0 then (if t159 > 254 then (masterdisclaw20_DirrecordSizes.j0 k (wrap64 (a0)) (wrap64 (a1)) t159 true) else (if t159 > 0 then (masterdisclaw20_DirrecordSizes.j0 k (wrap64 (a0)) (wrap64 (a1)) t159 (decide (t159 < 34))) else (masterdisclaw20_DirrecordSizes.j0 k (wrap64 (a0)) (wrap64 (a1)) t159 false))) else (masterdisclaw20_DirrecordSizes.j0 k (wrap64 (a0)) (wrap64 (a1)) t159 true)) else (masterdisclaw20_DirrecordSizes.j0 k (wrap64 (a0)) (wrap64 (a1)) t159 true)))) else (none)) else (none)) else (none)) else (none)))) else (some false))
theorem masterdisclaw20_DirrecordSizes.mono_l : ∀ k, (∀ y0 y1 y2 y3, LeO (masterdisclaw20_DirrecordSizes.j0 k y0 y1 y2 y3) (masterdisclaw20_DirrecordSizes.j0 (k + 1) y0 y1 y2 y3)) ∧ (∀ y0 y1 y2 y3, LeO (masterdisclaw20_DirrecordSizes.j1 k y0 y1 y2 y3) (masterdisclaw20_DirrecordSizes.j1 (k + 1) y0 y1 y2 y3))
  | 0 => ⟨fun _ _ _ _ r h => by simp [masterdisclaw20_DirrecordSizes.j0] at h, fun _ _ _ _ r h => by simp [masterdisclaw20_DirrecordSizes.j1] at h⟩
  | k + 1 => by
    obtain ⟨ih0, ih1⟩ := masterdisclaw20_DirrecordSizes.mono_l k
    refine ⟨?_, ?_⟩
    · intro y0 y1 y2 y3
      unfold masterdisclaw20_DirrecordSizes.j0
      repeat' first
      | (with_reducible exact ih0 _ _ _ _)
      | (with_reducible exact ih1 _ _ _ _)
      | (with_reducible exact dirrecord_Encode.mono _ _ _ _ _ _ _ _ _)
      | (with_reducible exact dirrecord_Size.mono _ _ _)
      | (with_reducible exact LeO.refl _)
      | (with_reducible exact LeO.none _)
      | (with_reducible refine LeO.ite ?_ ?_)
      | (with_reducible refine LeO.bind ?_ (fun _ => ?_))
      | exact ih0 _ _ _ _
      | exact ih1 _ _ _ _
      | exact dirrecord_Encode.mono _ _ _ _ _ _ _ _ _
      | exact dirrecord_Size.mono _ _ _
      | exact LeO.none _
      | refine LeO.ite ?_ ?_
      | refine LeO.bind ?_ (fun _ => ?_)
    · intro y0 y1 y2 y3
      unfold masterdisclaw20_DirrecordSizes.j1
      repeat' first
      | (with_reducible exact ih0 _ _ _ _)
      | (with_reducible exact ih1 _ _ _ _)
      | (with_reducible exact dirrecord_Encode.mono _ _ _ _ _ _ _ _ _)
      | (with_reducible exact dirrecord_Size.mono _ _ _)
      | (with_reducible exact LeO.refl _)
      | (with_reducible exact LeO.none _)
      | (with_reducible refine LeO.ite ?_ ?_)
      | (with_reducible refine LeO.bind ?_ (fun _ => ?_))
      | exact ih0 _ _ _ _
      | exact ih1 _ _ _ _
      | exact dirrecord_Encode.mono _ _ _ _ _ _ _ _ _
      | exact dirrecord_Size.mono _ _ _
      | exact LeO.none _
      | refine LeO.ite ?_ ?_
      | refine LeO.bind ?_ (fun _ => ?_)
theorem masterdisclaw20_DirrecordSizes.mono : ∀ a0 a1 k, LeO (masterdisclaw20_DirrecordSizes.f k a0 a1) (masterdisclaw20_DirrecordSizes.f (k + 1) a0 a1) := by
  intro a0 a1 k
  obtain ⟨ih0, ih1⟩ := masterdisclaw20_DirrecordSizes.mono_l k
  unfold masterdisclaw20_DirrecordSizes.f
  repeat' first
      | (with_reducible exact ih0 _ _ _ _)
      | (with_reducible exact ih1 _ _ _ _)
      | (with_reducible exact dirrecord_Encode.mono _ _ _ _ _ _ _ _ _)
      | (with_reducible exact dirrecord_Size.mono _ _ _)
      | (with_reducible exact LeO.refl _)
      | (with_reducible exact LeO.none _)
      | (with_reducible refine LeO.ite ?_ ?_)
      | (with_reducible refine LeO.bind ?_ (fun _ => ?_))
      | exact ih0 _ _ _ _
      | exact ih1 _ _ _ _
      | exact dirrecord_Encode.mono _ _ _ _ _ _ _ _ _
      | exact dirrecord_Size.mono _ _ _
      | exact LeO.none _
      | refine LeO.ite ?_ ?_
      | refine LeO.bind ?_ (fun _ => ?_)
def masterdisclaw20_DirrecordSizes.T6 : Bool × List (List Nat × List Nat) := (true, [([], []), ([0, 0], [0]), ([1], [1]), ([], []), ([3, 3], [3]), ([4], [4]), ([0, 1, 2], []), ([6, 2, 0, 1, 2], [2, 6]), ([0, 1, 2, 3, 4, 5, 6, 7], []), ([8, 5, 7, 0, 1, 2, 3, 4, 5, 6, 7], [5, 8])])
def masterdisclaw20_DirrecordSizes.B6 : List Nat := [0, 1, 3, 0, 8, 24, 7, 71, 255, 511]
theorem masterdisclaw20_DirrecordSizes.tab6 : rtab .any (opsOf Try.f8 6) = masterdisclaw20_DirrecordSizes.T6 := by kernel_rfl
theorem masterdisclaw20_DirrecordSizes.bits6 : waitsOk masterdisclaw20_DirrecordSizes.T6.2 masterdisclaw20_DirrecordSizes.B6 = true := by kernel_rfl
set_option maxHeartbeats 8000000 in
set_option maxRecDepth 100000 in
theorem masterdisclaw20_DirrecordSizes.calls (k : Nat) (a0 : Int) (a1 : Int) (r : Bool) (w : World) (h : masterdisclaw20_DirrecordSizes.f k a0 a1 = some r) :
    Calls Try.prog 8 #[.int .u8 a0, .int .u8 a1] w fun e w' => e = .returned (.bool r) ∧ Below w.heap.size w w' := by
  have hu23 := Try.underlying23
  have HB := Aside0.mk (Below.refl w.heap.size w)
  have H : ((masterdisclaw20_awake.f).bind fun t158 => (if t158 = true then ((dirrecord_Size.f k (wrap64 (a0)) (wrap64 (a1))).bind fun t159 => ((masterdisclaw20_example.f).bind fun bt160 => (if 0 ≤ (wrap64 (a0)) then (if (wrap64 (a0) : Int).toNat ≤ 281474976710656 then (if 0 ≤ (wrap64 (a1)) then (if (wrap64 (a1) : Int).toNat ≤ 281474976710656 then ((dirrecord_Encode.f k (strOfNums (List.replicate (wrap64 (a0) : Int).toNat 0)) bt160.2.1 bt160.2.2.1 bt160.2.2.2.1 bt160.2.2.2.2.1 bt160.2.2.2.2.2.1 bt160.2.2.2.2.2.2.1 (strOfNums (List.replicate (wrap64 (a1) : Int).toNat 0))).bind fun bt175 => (if ((bt175.2 == 0) != (decide (t159 > 0))) = true then (masterdisclaw20_DirrecordSizes.j0 k (wrap64 (a0)) (wrap64 (a1)) t159 true) else (if (bt175.1.size : Int) = t159 then (if (Int.tmod t159 2) = 0 then (if t159 > 254 then (masterdisclaw20_DirrecordSizes.j0 k (wrap64 (a0)) (wrap64 (a1)) t159 true) else (if t159 > 0 then (masterdisclaw20_DirrecordSizes.j0 k (wrap64 (a0)) (wrap64 (a1)) t159 (decide (t159 < 34))) else (masterdisclaw20_DirrecordSizes.j0 k (wrap64 (a0)) (wrap64 (a1)) t159 false))) else (masterdisclaw20_DirrecordSizes.j0 k (wrap64 (a0)) (wrap64 (a1)) t159 true)) else (masterdisclaw20_DirrecordSizes.j0 k (wrap64 (a0)) (wrap64 (a1)) t159 true)))) else (none)) else (none)) else (none)) else (none)))) else (some false))) = some r := h
  clear h
  replace H := Option.bind_eq_some_iff.mp H
  obtain ⟨t158, A30, H⟩ := H
  replace H : (if t158 = true then ((dirrecord_Size.f k (wrap64 (a0)) (wrap64 (a1))).bind fun t159 => ((masterdisclaw20_example.f).bind fun bt160 => (if 0 ≤ (wrap64 (a0)) then (if (wrap64 (a0) : Int).toNat ≤ 281474976710656 then (if 0 ≤ (wrap64 (a1)) then (if (wrap64 (a1) : Int).toNat ≤ 281474976710656 then ((dirrecord_Encode.f k (strOfNums (List.replicate (wrap64 (a0) : Int).toNat 0)) bt160.2.1 bt160.2.2.1 bt160.2.2.2.1 bt160.2.2.2.2.1 bt160.2.2.2.2.2.1 bt160.2.2.2.2.2.2.1 (strOfNums (List.replicate (wrap64 (a1) : Int).toNat 0))).bind fun bt175 => (if ((bt175.2 == 0) != (decide (t159 > 0))) = true then (masterdisclaw20_DirrecordSizes.j0 k (wrap64 (a0)) (wrap64 (a1)) t159 true) else (if (bt175.1.size : Int) = t159 then (if (Int.tmod t159 2) = 0 then (if t159 > 254 then (masterdisclaw20_DirrecordSizes.j0 k (wrap64 (a0)) (wrap64 (a1)) t159 true) else (if t159 > 0 then (masterdisclaw20_DirrecordSizes.j0 k (wrap64 (a0)) (wrap64 (a1)) t159 (decide (t159 < 34))) else (masterdisclaw20_DirrecordSizes.j0 k (wrap64 (a0)) (wrap64 (a1)) t159 false))) else (masterdisclaw20_DirrecordSizes.j0 k (wrap64 (a0)) (wrap64 (a1)) t159 true)) else (masterdisclaw20_DirrecordSizes.j0 k (wrap64 (a0)) (wrap64 (a1)) t159 true)))) else (none)) else (none)) else (none)) else (none)))) else (some false)) = some r := H
  have A3 := Aside0.mk A30
  clear A30
  by_cases c4 : t158 = true
  · subst c4
    have H1 : ((dirrecord_Size.f k (wrap64 (a0)) (wrap64 (a1))).bind fun t159 => ((masterdisclaw20_example.f).bind fun bt160 => (if 0 ≤ (wrap64 (a0)) then (if (wrap64 (a0) : Int).toNat ≤ 281474976710656 then (if 0 ≤ (wrap64 (a1)) then (if (wrap64 (a1) : Int).toNat ≤ 281474976710656 then ((dirrecord_Encode.f k (strOfNums (List.replicate (wrap64 (a0) : Int).toNat 0)) bt160.2.1 bt160.2.2.1 bt160.2.2.2.1 bt160.2.2.2.2.1 bt160.2.2.2.2.2.1 bt160.2.2.2.2.2.2.1 (strOfNums (List.replicate (wrap64 (a1) : Int).toNat 0))).bind fun bt175 => (if ((bt175.2 == 0) != (decide (t159 > 0))) = true then (masterdisclaw20_DirrecordSizes.j0 k (wrap64 (a0)) (wrap64 (a1)) t159 true) else (if (bt175.1.size : Int) = t159 then (if (Int.tmod t159 2) = 0 then (if t159 > 254 then (masterdisclaw20_DirrecordSizes.j0 k (wrap64 (a0)) (wrap64 (a1)) t159 true) else (if t159 > 0 then (masterdisclaw20_DirrecordSizes.j0 k (wrap64 (a0)) (wrap64 (a1)) t159 (decide (t159 < 34))) else (masterdisclaw20_DirrecordSizes.j0 k (wrap64 (a0)) (wrap64 (a1)) t159 false))) else (masterdisclaw20_DirrecordSizes.j0 k (wrap64 (a0)) (wrap64 (a1)) t159 true)) else (masterdisclaw20_DirrecordSizes.j0 k (wrap64 (a0)) (wrap64 (a1)) t159 true)))) else (none)) else (none)) else (none)) else (none)))) = some r := by rw [if_pos rfl] at H; exact H
    clear H
    have H := H1
    clear H1
    replace H := Option.bind_eq_some_iff.mp H
    obtain ⟨t159, A50, H⟩ := H
    replace H : ((masterdisclaw20_example.f).bind fun bt160 => (if 0 ≤ (wrap64 (a0)) then (if (wrap64 (a0) : Int).toNat ≤ 281474976710656 then (if 0 ≤ (wrap64 (a1)) then (if (wrap64 (a1) : Int).toNat ≤ 281474976710656 then ((dirrecord_Encode.f k (strOfNums (List.replicate (wrap64 (a0) : Int).toNat 0)) bt160.2.1 bt160.2.2.1 bt160.2.2.2.1 bt160.2.2.2.2.1 bt160.2.2.2.2.2.1 bt160.2.2.2.2.2.2.1 (strOfNums (List.replicate (wrap64 (a1) : Int).toNat 0))).bind fun bt175 => (if ((bt175.2 == 0) != (decide (t159 > 0))) = true then (masterdisclaw20_DirrecordSizes.j0 k (wrap64 (a0)) (wrap64 (a1)) t159 true) else (if (bt175.1.size : Int) = t159 then (if (Int.tmod t159 2) = 0 then (if t159 > 254 then (masterdisclaw20_DirrecordSizes.j0 k (wrap64 (a0)) (wrap64 (a1)) t159 true) else (if t159 > 0 then (masterdisclaw20_DirrecordSizes.j0 k (wrap64 (a0)) (wrap64 (a1)) t159 (decide (t159 < 34))) else (masterdisclaw20_DirrecordSizes.j0 k (wrap64 (a0)) (wrap64 (a1)) t159 false))) else (masterdisclaw20_DirrecordSizes.j0 k (wrap64 (a0)) (wrap64 (a1)) t159 true)) else (masterdisclaw20_DirrecordSizes.j0 k (wrap64 (a0)) (wrap64 (a1)) t159 true)))) else (none)) else (none)) else (none)) else (none))) = some r := H
    have A5 := Aside0.mk A50
    clear A50
    replace H := Option.bind_eq_some_iff.mp H
    obtain ⟨⟨t160, t161, t162, t163, t164, t165, t166, t167⟩, A60, H⟩ := H
    replace H : (if 0 ≤ (wrap64 (a0)) then (if (wrap64 (a0) : Int).toNat ≤ 281474976710656 then (if 0 ≤ (wrap64 (a1)) then (if (wrap64 (a1) : Int).toNat ≤ 281474976710656 then ((dirrecord_Encode.f k (strOfNums (List.replicate (wrap64 (a0) : Int).toNat 0)) t161 t162 t163 t164 t165 t166 (strOfNums (List.replicate (wrap64 (a1) : Int).toNat 0))).bind fun bt175 => (if ((bt175.2 == 0) != (decide (t159 > 0))) = true then (masterdisclaw20_DirrecordSizes.j0 k (wrap64 (a0)) (wrap64 (a1)) t159 true) else (if (bt175.1.size : Int) = t159 then (if (Int.tmod t159 2) = 0 then (if t159 > 254 then (masterdisclaw20_DirrecordSizes.j0 k (wrap64 (a0)) (wrap64 (a1)) t159 true) else (if t159 > 0 then (masterdisclaw20_DirrecordSizes.j0 k (wrap64 (a0)) (wrap64 (a1)) t159 (decide (t159 < 34))) else (masterdisclaw20_DirrecordSizes.j0 k (wrap64 (a0)) (wrap64 (a1)) t159 false))) else (masterdisclaw20_DirrecordSizes.j0 k (wrap64 (a0)) (wrap64 (a1)) t159 true)) else (masterdisclaw20_DirrecordSizes.j0 k (wrap64 (a0)) (wrap64 (a1)) t159 true)))) else (none)) else (none)) else (none)) else (none)) = some r := H
    have A6 := Aside0.mk A60
    clear A60
    obtain ⟨ji7, hji7⟩ : ∃ j_ : Int, (wrap64 (a0)) = j_ := ⟨_, rfl⟩
    replace H : (if 0 ≤ (ji7) then (if (ji7 : Int).toNat ≤ 281474976710656 then (if 0 ≤ (wrap64 (a1)) then (if (wrap64 (a1) : Int).toNat ≤ 281474976710656 then ((dirrecord_Encode.f k (strOfNums (List.replicate (ji7 : Int).toNat 0)) t161 t162 t163 t164 t165 t166 (strOfNums (List.replicate (wrap64 (a1) : Int).toNat 0))).bind fun bt175 => (if ((bt175.2 == 0) != (decide (t159 > 0))) = true then (masterdisclaw20_DirrecordSizes.j0 k ji7 (wrap64 (a1)) t159 true) else (if (bt175.1.size : Int) = t159 then (if (Int.tmod t159 2) = 0 then (if t159 > 254 then (masterdisclaw20_DirrecordSizes.j0 k ji7 (wrap64 (a1)) t159 true) else (if t159 > 0 then (masterdisclaw20_DirrecordSizes.j0 k ji7 (wrap64 (a1)) t159 (decide (t159 < 34))) else (masterdisclaw20_DirrecordSizes.j0 k ji7 (wrap64 (a1)) t159 false))) else (masterdisclaw20_DirrecordSizes.j0 k ji7 (wrap64 (a1)) t159 true)) else (masterdisclaw20_DirrecordSizes.j0 k ji7 (wrap64 (a1)) t159 true)))) else (none)) else (none)) else (none)) else (none)) = some r := by first | (rw [hji7] at H; exact H) | (simp only [hji7] at H ⊢; exact H)
    (try rw [hji7] at A3)
    (try rw [hji7] at A5)
    (try rw [hji7] at A6)
    have hji7w : (IntKind.i64.wrap (a0)) = ji7 := (i64_w _).trans hji7
    by_cases c8 : 0 ≤ (ji7)
    · rw [if_pos c8] at H
      have c8b0 := eq_true c8
      have c8b1 : decide (0 ≤ (ji7)) = true := decide_eq_true c8
      clear c8
      by_cases c9 : (ji7 : Int).toNat ≤ 281474976710656
      · rw [if_pos c9] at H
        have c9b0 := eq_true c9
        have c9b1 : decide ((ji7 : Int).toNat ≤ 281474976710656) = true := decide_eq_true c9
        clear c9
        obtain ⟨y169, hy169⟩ : ∃ y_ : List Int, y_ = (List.replicate (ji7 : Int).toNat 0) := ⟨_, rfl⟩
        replace H : (if 0 ≤ (wrap64 (a1)) then (if (wrap64 (a1) : Int).toNat ≤ 281474976710656 then ((dirrecord_Encode.f k (strOfNums y169) t161 t162 t163 t164 t165 t166 (strOfNums (List.replicate (wrap64 (a1) : Int).toNat 0))).bind fun bt175 => (if ((bt175.2 == 0) != (decide (t159 > 0))) = true then (masterdisclaw20_DirrecordSizes.j0 k ji7 (wrap64 (a1)) t159 true) else (if (bt175.1.size : Int) = t159 then (if (Int.tmod t159 2) = 0 then (if t159 > 254 then (masterdisclaw20_DirrecordSizes.j0 k ji7 (wrap64 (a1)) t159 true) else (if t159 > 0 then (masterdisclaw20_DirrecordSizes.j0 k ji7 (wrap64 (a1)) t159 (decide (t159 < 34))) else (masterdisclaw20_DirrecordSizes.j0 k ji7 (wrap64 (a1)) t159 false))) else (masterdisclaw20_DirrecordSizes.j0 k ji7 (wrap64 (a1)) t159 true)) else (masterdisclaw20_DirrecordSizes.j0 k ji7 (wrap64 (a1)) t159 true)))) else (none)) else (none)) = some r := by first | (rw [hy169]; with_reducible exact H) | (have H2_ := (Option.bind_some _ _).symm.trans H; rw [hy169]; with_reducible exact H2_) | (have H2_ := (Option.bind_some _ _).symm.trans H; with_reducible exact H2_) | with_reducible exact H | (rw [hy169]; exact H) | exact H
        have Ny169 := Aside0.mk hy169
        clear hy169
        obtain ⟨ji10, hji10⟩ : ∃ j_ : Int, (wrap64 (a1)) = j_ := ⟨_, rfl⟩
        replace H : (if 0 ≤ (ji10) then (if (ji10 : Int).toNat ≤ 281474976710656 then ((dirrecord_Encode.f k (strOfNums y169) t161 t162 t163 t164 t165 t166 (strOfNums (List.replicate (ji10 : Int).toNat 0))).bind fun bt175 => (if ((bt175.2 == 0) != (decide (t159 > 0))) = true then (masterdisclaw20_DirrecordSizes.j0 k ji7 ji10 t159 true) else (if (bt175.1.size : Int) = t159 then (if (Int.tmod t159 2) = 0 then (if t159 > 254 then (masterdisclaw20_DirrecordSizes.j0 k ji7 ji10 t159 true) else (if t159 > 0 then (masterdisclaw20_DirrecordSizes.j0 k ji7 ji10 t159 (decide (t159 < 34))) else (masterdisclaw20_DirrecordSizes.j0 k ji7 ji10 t159 false))) else (masterdisclaw20_DirrecordSizes.j0 k ji7 ji10 t159 true)) else (masterdisclaw20_DirrecordSizes.j0 k ji7 ji10 t159 true)))) else (none)) else (none)) = some r := by first | (rw [hji10] at H; exact H) | (simp only [hji10] at H ⊢; exact H)
        (try rw [hji10] at A3)
        (try rw [hji10] at A5)
        (try rw [hji10] at A6)
        have hji10w : (IntKind.i64.wrap (a1)) = ji10 := (i64_w _).trans hji10
        by_cases c11 : 0 ≤ (ji10)
        · rw [if_pos c11] at H
          have c11b0 := eq_true c11
          have c11b1 : decide (0 ≤ (ji10)) = true := decide_eq_true c11
          clear c11
          by_cases c12 : (ji10 : Int).toNat ≤ 281474976710656
          · rw [if_pos c12] at H
            have c12b0 := eq_true c12
            have c12b1 : decide ((ji10 : Int).toNat ≤ 281474976710656) = true := decide_eq_true c12
            clear c12
            obtain ⟨y172, hy172⟩ : ∃ y_ : List Int, y_ = (List.replicate (ji10 : Int).toNat 0) := ⟨_, rfl⟩
            replace H : ((dirrecord_Encode.f k (strOfNums y169) t161 t162 t163 t164 t165 t166 (strOfNums y172)).bind fun bt175 => (if ((bt175.2 == 0) != (decide (t159 > 0))) = true then (masterdisclaw20_DirrecordSizes.j0 k ji7 ji10 t159 true) else (if (bt175.1.size : Int) = t159 then (if (Int.tmod t159 2) = 0 then (if t159 > 254 then (masterdisclaw20_DirrecordSizes.j0 k ji7 ji10 t159 true) else (if t159 > 0 then (masterdisclaw20_DirrecordSizes.j0 k ji7 ji10 t159 (decide (t159 < 34))) else (masterdisclaw20_DirrecordSizes.j0 k ji7 ji10 t159 false))) else (masterdisclaw20_DirrecordSizes.j0 k ji7 ji10 t159 true)) else (masterdisclaw20_DirrecordSizes.j0 k ji7 ji10 t159 true)))) = some r := by first | (rw [hy172]; with_reducible exact H) | (have H2_ := (Option.bind_some _ _).symm.trans H; rw [hy172]; with_reducible exact H2_) | (have H2_ := (Option.bind_some _ _).symm.trans H; with_reducible exact H2_) | with_reducible exact H | (rw [hy172]; exact H) | exact H
            have Ny172 := Aside0.mk hy172
            clear hy172
            replace H := Option.bind_eq_some_iff.mp H
            obtain ⟨⟨t175, t176⟩, A130, H⟩ := H
            replace H : (if ((t176 == 0) != (decide (t159 > 0))) = true then (masterdisclaw20_DirrecordSizes.j0 k ji7 ji10 t159 true) else (if (t175.size : Int) = t159 then (if (Int.tmod t159 2) = 0 then (if t159 > 254 then (masterdisclaw20_DirrecordSizes.j0 k ji7 ji10 t159 true) else (if t159 > 0 then (masterdisclaw20_DirrecordSizes.j0 k ji7 ji10 t159 (decide (t159 < 34))) else (masterdisclaw20_DirrecordSizes.j0 k ji7 ji10 t159 false))) else (masterdisclaw20_DirrecordSizes.j0 k ji7 ji10 t159 true)) else (masterdisclaw20_DirrecordSizes.j0 k ji7 ji10 t159 true))) = some r := H
            have A13 := Aside0.mk A130
            clear A130
            have HC14 := Aside0.mk H
            clear H
            go_enter Try.func8, Try.ntmps8
            try go_wp2_with (first | ((with_reducible refine gate_callee (f := 18) rfl ?_); refine goesL_ (some 11) rfl rfl Try.func18 (by kernel_rfl) rfl #[] rfl (by (try simp only [List.map_toArray, List.map_cons, List.map_nil]); first | done | rfl | (simp only [List.length_drop, List.length_take]; rfl)) ?_; (with_reducible refine (masterdisclaw20_awake.calls  true _ A3.out).mono ?_); rintro e w15 ⟨rfl, hb⟩; refine ⟨_, rfl, ?_⟩; have n0_ := Aside0.mk (below_step (by repeat (first | (with_reducible first | exact HB.out | apply below_alloc | apply pw_below_drewN | apply below_drew1) | exact HB.out)) hb); clear HB; have HB := n0_; clear n0_; (try clear hb); (try clear hb2); (try clear hk); (try clear hi)) | ((with_reducible refine gate_callee (f := 21) rfl ?_); refine goesL_ (some 19) rfl rfl Try.func21 (by kernel_rfl) rfl #[.int .i64 ji7, .int .i64 ji10] rfl (by (try simp only [List.map_toArray, List.map_cons, List.map_nil]); first | done | (simp only [hji10, hji7]; rfl) | rfl | (simp only [List.length_drop, List.length_take]; rfl)) ?_; (with_reducible refine (dirrecord_Size.calls k ji7 ji10 t159 _ A5.out).mono ?_); rintro e w' ⟨rfl, ⟨nd, rfl⟩⟩; refine ⟨_, rfl, ?_⟩; (try (rw [drewN_self w15]; generalize hq_ : World.drewN w15 _ = w15; have n0_ : Aside0 (Below w.heap.size w w15) := ⟨by rw [← hq_]; exact (by repeat (first | (with_reducible first | exact HB.out | apply below_alloc | apply pw_below_drewN | apply below_drew1) | exact HB.out))⟩; clear HB hq_; have HB := n0_; clear n0_))) | ((with_reducible refine gate_callee (f := 28) rfl ?_); refine goesL_ (some 20) rfl rfl Try.func28 (by kernel_rfl) rfl #[] rfl (by (try simp only [List.map_toArray, List.map_cons, List.map_nil]); first | done | rfl | (simp only [List.length_drop, List.length_take]; rfl)) ?_; (with_reducible refine (masterdisclaw20_example.calls  t160 t161 t162 t163 t164 t165 t166 t167 _ A6.out).mono ?_); rintro e w16 ⟨rfl, hb⟩; refine ⟨_, rfl, ?_⟩; have n0_ := Aside0.mk (below_step (by repeat (first | (with_reducible first | exact HB.out | apply below_alloc | apply pw_below_drewN | apply below_drew1) | exact HB.out)) hb); clear HB; have HB := n0_; clear n0_; (try clear hb); (try clear hb2); (try clear hk); (try clear hi)) | ((with_reducible refine gate_dst (N := 8) rfl ?_); (try (refine gate_guard (by rfl) ?_; dsimp only)); refine box_event ?hg (N := 8) ?hd (cs := #[.string (⟨#[]⟩ : ByteArray), .int .i64 0, .int .i64 0, .int .i64 0, .int .i64 0, .int .i64 0, .int .i64 0, .string (⟨#[]⟩ : ByteArray)]) (t := 23) ?hr ?_; (case hd => rfl); (case hg => rfl); (case hr => first | (go_simp; done) | (go_simp; rfl)); intro gb168 hg w17 hbox hb; have n0_ := Aside0.mk (below_step (by repeat (first | (with_reducible first | exact HB.out | apply below_alloc | apply pw_below_drewN | apply below_drew1) | exact HB.out)) hb); have n1_ := Aside0.mk (hbox); have n2_ := Aside0.mk ((by rw [hg]; exact (below_size (by repeat (first | (with_reducible first | exact HB.out | apply below_alloc | apply pw_below_drewN | apply below_drew1) | exact HB.out))) : w.heap.size ≤ gb168)); have n3_ := Aside0.mk ((by rw [hg]; exact (below_size (by repeat (first | (with_reducible first | exact HB.out | apply below_alloc | apply pw_below_drewN | apply below_drew1) | exact HB.out))) : w.heap.size ≤ gb168)); clear HB; have HB := n0_; have BK168 := n1_; have GW168 := n2_; have GE168 := n3_; clear n0_ n1_ n2_ n3_; clear hb hbox hg; have hcz18_0 : w17.cell? ⟨gb168, 0, none⟩ = some (.string (⟨#[]⟩ : ByteArray)) := (blk_cell BK168.out 0).trans rfl; have hcz18_1 : w17.cell? ⟨gb168, 1, none⟩ = some (.int .i64 0) := (blk_cell BK168.out 1).trans rfl; have hcz18_2 : w17.cell? ⟨gb168, 2, none⟩ = some (.int .i64 0) := (blk_cell BK168.out 2).trans rfl; have hcz18_3 : w17.cell? ⟨gb168, 3, none⟩ = some (.int .i64 0) := (blk_cell BK168.out 3).trans rfl; have hcz18_4 : w17.cell? ⟨gb168, 4, none⟩ = some (.int .i64 0) := (blk_cell BK168.out 4).trans rfl; have hcz18_5 : w17.cell? ⟨gb168, 5, none⟩ = some (.int .i64 0) := (blk_cell BK168.out 5).trans rfl; have hcz18_6 : w17.cell? ⟨gb168, 6, none⟩ = some (.int .i64 0) := (blk_cell BK168.out 6).trans rfl; have hcz18_7 : w17.cell? ⟨gb168, 7, none⟩ = some (.string (⟨#[]⟩ : ByteArray)) := (blk_cell BK168.out 7).trans rfl; have hfz18_0 := blk_frozen BK168.out 0; have hfz18_1 := blk_frozen BK168.out 1; have hfz18_2 := blk_frozen BK168.out 2; have hfz18_3 := blk_frozen BK168.out 3; have hfz18_4 := blk_frozen BK168.out 4; have hfz18_5 := blk_frozen BK168.out 5; have hfz18_6 := blk_frozen BK168.out 6; have hfz18_7 := blk_frozen BK168.out 7))
            have n0_ : Aside0 (((((((((w17.setCell ⟨gb168, 0, none⟩ (.string t160)).setCell ⟨gb168, 1, none⟩ (.int .i64 t161)).setCell ⟨gb168, 2, none⟩ (.int .i64 t162)).setCell ⟨gb168, 3, none⟩ (.int .i64 t163)).setCell ⟨gb168, 4, none⟩ (.int .i64 t164)).setCell ⟨gb168, 5, none⟩ (.int .i64 t165)).setCell ⟨gb168, 6, none⟩ (.int .i64 t166)).setCell ⟨gb168, 7, none⟩ (.string t167)).heap[gb168]? = some (.cells #[.string t160, .int .i64 t161, .int .i64 t162, .int .i64 t163, .int .i64 t164, .int .i64 t165, .int .i64 t166, .string t167] 23 (0, 0))) := ⟨by (with_reducible repeat (first | refine blk_drewN ?_ _ | refine blk_drew ?_ | refine blk_alloc ?_ _)); refine blk_put (cs := #[.string t160, .int .i64 t161, .int .i64 t162, .int .i64 t163, .int .i64 t164, .int .i64 t165, .int .i64 t166, .string (⟨#[]⟩ : ByteArray)]) ?_ 7 _ rfl; (with_reducible repeat (first | refine blk_drewN ?_ _ | refine blk_drew ?_ | refine blk_alloc ?_ _)); refine blk_put (cs := #[.string t160, .int .i64 t161, .int .i64 t162, .int .i64 t163, .int .i64 t164, .int .i64 t165, .int .i64 0, .string (⟨#[]⟩ : ByteArray)]) ?_ 6 _ rfl; (with_reducible repeat (first | refine blk_drewN ?_ _ | refine blk_drew ?_ | refine blk_alloc ?_ _)); refine blk_put (cs := #[.string t160, .int .i64 t161, .int .i64 t162, .int .i64 t163, .int .i64 t164, .int .i64 0, .int .i64 0, .string (⟨#[]⟩ : ByteArray)]) ?_ 5 _ rfl; (with_reducible repeat (first | refine blk_drewN ?_ _ | refine blk_drew ?_ | refine blk_alloc ?_ _)); refine blk_put (cs := #[.string t160, .int .i64 t161, .int .i64 t162, .int .i64 t163, .int .i64 0, .int .i64 0, .int .i64 0, .string (⟨#[]⟩ : ByteArray)]) ?_ 4 _ rfl; (with_reducible repeat (first | refine blk_drewN ?_ _ | refine blk_drew ?_ | refine blk_alloc ?_ _)); refine blk_put (cs := #[.string t160, .int .i64 t161, .int .i64 t162, .int .i64 0, .int .i64 0, .int .i64 0, .int .i64 0, .string (⟨#[]⟩ : ByteArray)]) ?_ 3 _ rfl; (with_reducible repeat (first | refine blk_drewN ?_ _ | refine blk_drew ?_ | refine blk_alloc ?_ _)); refine blk_put (cs := #[.string t160, .int .i64 t161, .int .i64 0, .int .i64 0, .int .i64 0, .int .i64 0, .int .i64 0, .string (⟨#[]⟩ : ByteArray)]) ?_ 2 _ rfl; (with_reducible repeat (first | refine blk_drewN ?_ _ | refine blk_drew ?_ | refine blk_alloc ?_ _)); refine blk_put (cs := #[.string t160, .int .i64 0, .int .i64 0, .int .i64 0, .int .i64 0, .int .i64 0, .int .i64 0, .string (⟨#[]⟩ : ByteArray)]) ?_ 1 _ rfl; (with_reducible repeat (first | refine blk_drewN ?_ _ | refine blk_drew ?_ | refine blk_alloc ?_ _)); refine blk_put (cs := #[.string (⟨#[]⟩ : ByteArray), .int .i64 0, .int .i64 0, .int .i64 0, .int .i64 0, .int .i64 0, .int .i64 0, .string (⟨#[]⟩ : ByteArray)]) ?_ 0 _ rfl; (with_reducible repeat (first | refine blk_drewN ?_ _ | refine blk_drew ?_ | refine blk_alloc ?_ _)); exact BK168.out⟩
            have n1_ : Aside0 (Below w.heap.size w ((((((((w17.setCell ⟨gb168, 0, none⟩ (.string t160)).setCell ⟨gb168, 1, none⟩ (.int .i64 t161)).setCell ⟨gb168, 2, none⟩ (.int .i64 t162)).setCell ⟨gb168, 3, none⟩ (.int .i64 t163)).setCell ⟨gb168, 4, none⟩ (.int .i64 t164)).setCell ⟨gb168, 5, none⟩ (.int .i64 t165)).setCell ⟨gb168, 6, none⟩ (.int .i64 t166)).setCell ⟨gb168, 7, none⟩ (.string t167))) := ⟨by repeat (first | (with_reducible first | exact HB.out | apply below_alloc | apply pw_below_drewN | apply below_drew1 | refine below_set ?_ GE168.out) | exact HB.out)⟩
            (try clear BK168)
            (try clear HB)
            generalize ((((((((w17.setCell ⟨gb168, 0, none⟩ (.string t160)).setCell ⟨gb168, 1, none⟩ (.int .i64 t161)).setCell ⟨gb168, 2, none⟩ (.int .i64 t162)).setCell ⟨gb168, 3, none⟩ (.int .i64 t163)).setCell ⟨gb168, 4, none⟩ (.int .i64 t164)).setCell ⟨gb168, 5, none⟩ (.int .i64 t165)).setCell ⟨gb168, 6, none⟩ (.int .i64 t166)).setCell ⟨gb168, 7, none⟩ (.string t167)) = w19 at n0_ n1_ ⊢
            have BK168 := n0_
            have HB := n1_
            clear n0_ n1_
            have n0_ := Aside0.mk (blk_drew BK168.out)
            have n1_ := Aside0.mk (below_drew1 HB.out)
            clear BK168
            clear HB
            have BK168 := n0_
            have HB := n1_
            clear n0_ n1_
            refine start_ (n := 10) (S := fun w' => True) (ds := []) #[false, false, false, false, false, false, false, false, false, false] (by kernel_rfl) rfl rfl trivial (fun hHeld => ?_); refine with_tabW masterdisclaw20_DirrecordSizes.tab6 masterdisclaw20_DirrecordSizes.bits6 (fun HT_ HW_ => ?_)
            generalize w19.drew = w20 at BK168 HB hHeld ⊢
            refine pure_ (i := 0) (N := some 21) (v := ?_) (a' := ?_) #[true, false, false, false, false, false, false, false, false, false] rfl rfl (any_of HT_.out (by kernel_rfl)) (fun _ _ _ h => h) (Or.inl ⟨by rfl, ?_⟩) ?_ ?_
            rotate_left
            · intro w'
              go_simp
              with_reducible rfl
            rotate_left
            · simp only [Act.put, List.setIfInBounds_toArray, List.set_cons_zero, List.set_cons_succ, i64_w, i32_w]
              rfl
            refine pure_ (i := 3) (N := some 24) (v := ?_) (a' := ?_) #[true, false, false, true, false, false, false, false, false, false] rfl rfl (any_of HT_.out (by kernel_rfl)) (fun _ _ _ h => h) (Or.inl ⟨by rfl, ?_⟩) ?_ ?_
            rotate_left
            · intro w'
              go_simp
              with_reducible rfl
            rotate_left
            · simp only [Act.put, List.setIfInBounds_toArray, List.set_cons_zero, List.set_cons_succ, i64_w, i32_w]
              rfl
            refine join_ (σ := Value × Value) 2 #[true, true, true, true, true, true, true, true, false, false] (fun s_ => [(22, s_.1), (23, .string (strOfNums y169)), (25, s_.2), (26, .string (strOfNums y172)), (27, .pointer (some ⟨gb168, 0, none⟩))]) (fun s_ w' => (Kd.R (Kd.int .u8) 5 w' w.heap.size (fun k_ => some k_ ≠ (s_.2 : Value).ownBlock) s_.1 y169) ∧ (Kd.R (Kd.int .u8) 5 w' w.heap.size (fun k_ => some k_ ≠ (s_.1 : Value).ownBlock) s_.2 y172) ∧ (w'.heap[gb168]? = some (.cells #[.string (strOfNums y169), .int .i64 t161, .int .i64 t162, .int .i64 t163, .int .i64 t164, .int .i64 t165, .int .i64 t166, .string t167] 23 (0, 0))) ∧ (Below w.heap.size w w')) ?_ ?_
            rotate_left
            · intro hJ1_2_4_5_7
              refine join_ (σ := Value × Value) 3 #[true, true, true, true, true, true, true, false, false, false] (fun s_ => [(22, s_.1), (23, .string (strOfNums y169)), (25, s_.2), (26, .string (strOfNums y172)), (27, .pointer (some ⟨gb168, 0, none⟩))]) (fun s_ w' => (Kd.R (Kd.int .u8) 5 w' w.heap.size (fun k_ => some k_ ≠ (s_.2 : Value).ownBlock) s_.1 y169) ∧ (Kd.R (Kd.int .u8) 5 w' w.heap.size (fun k_ => some k_ ≠ (s_.1 : Value).ownBlock) s_.2 y172) ∧ (w'.heap[gb168]? = some (.cells #[.string t160, .int .i64 t161, .int .i64 t162, .int .i64 t163, .int .i64 t164, .int .i64 t165, .int .i64 t166, .string t167] 23 (0, 0))) ∧ (Below w.heap.size w w')) ?_ ?_
              rotate_left
              · intro hJ1_2_4_5
                refine join_ (σ := Value × Value) 3 #[true, true, true, true, true, false, true, true, false, false] (fun s_ => [(22, s_.1), (23, .string (strOfNums y169)), (25, s_.2), (27, .pointer (some ⟨gb168, 0, none⟩))]) (fun s_ w' => (Kd.R (Kd.int .u8) 5 w' w.heap.size (fun k_ => some k_ ≠ (s_.2 : Value).ownBlock) s_.1 y169) ∧ (Kd.R (Kd.int .u8) 5 w' w.heap.size (fun k_ => some k_ ≠ (s_.1 : Value).ownBlock) s_.2 y172) ∧ (w'.heap[gb168]? = some (.cells #[.string (strOfNums y169), .int .i64 t161, .int .i64 t162, .int .i64 t163, .int .i64 t164, .int .i64 t165, .int .i64 t166, .string t167] 23 (0, 0))) ∧ (Below w.heap.size w w')) ?_ ?_
                rotate_left
                · intro hJ1_2_4_7
                  refine join_ (σ := Value × Value) 4 #[true, true, true, true, true, false, true, false, false, false] (fun s_ => [(22, s_.1), (23, .string (strOfNums y169)), (25, s_.2), (27, .pointer (some ⟨gb168, 0, none⟩))]) (fun s_ w' => (Kd.R (Kd.int .u8) 5 w' w.heap.size (fun k_ => some k_ ≠ (s_.2 : Value).ownBlock) s_.1 y169) ∧ (Kd.R (Kd.int .u8) 5 w' w.heap.size (fun k_ => some k_ ≠ (s_.1 : Value).ownBlock) s_.2 y172) ∧ (w'.heap[gb168]? = some (.cells #[.string t160, .int .i64 t161, .int .i64 t162, .int .i64 t163, .int .i64 t164, .int .i64 t165, .int .i64 t166, .string t167] 23 (0, 0))) ∧ (Below w.heap.size w w')) ?_ ?_
                  rotate_left
                  · intro hJ1_2_4
                    refine join_ (σ := Value) 4 #[true, true, true, true, false, false, true, true, false, false] (fun s_ => [(22, s_), (23, .string (strOfNums y169)), (27, .pointer (some ⟨gb168, 0, none⟩))]) (fun s_ w' => (Kd.R (Kd.int .u8) 5 w' w.heap.size (fun _ => True) s_ y169) ∧ (w'.heap[gb168]? = some (.cells #[.string (strOfNums y169), .int .i64 t161, .int .i64 t162, .int .i64 t163, .int .i64 t164, .int .i64 t165, .int .i64 t166, .string t167] 23 (0, 0))) ∧ (Below w.heap.size w w')) ?_ ?_
                    rotate_left
                    · intro hJ1_2_7
                      refine join_ (σ := Value × Value) 5 #[true, true, false, true, true, true, false, false, false, false] (fun s_ => [(22, s_.1), (25, s_.2), (26, .string (strOfNums y172))]) (fun s_ w' => (Kd.R (Kd.int .u8) 5 w' w.heap.size (fun k_ => some k_ ≠ (s_.2 : Value).ownBlock) s_.1 y169) ∧ (Kd.R (Kd.int .u8) 5 w' w.heap.size (fun k_ => some k_ ≠ (s_.1 : Value).ownBlock) s_.2 y172) ∧ (w'.heap[gb168]? = some (.cells #[.string t160, .int .i64 t161, .int .i64 t162, .int .i64 t163, .int .i64 t164, .int .i64 t165, .int .i64 t166, .string t167] 23 (0, 0))) ∧ (Below w.heap.size w w')) ?_ ?_
                      rotate_left
                      · intro hJ1_4_5
                        refine join_ (σ := Value) 5 #[true, true, true, true, false, false, true, false, false, false] (fun s_ => [(22, s_), (23, .string (strOfNums y169)), (27, .pointer (some ⟨gb168, 0, none⟩))]) (fun s_ w' => (Kd.R (Kd.int .u8) 5 w' w.heap.size (fun _ => True) s_ y169) ∧ (w'.heap[gb168]? = some (.cells #[.string t160, .int .i64 t161, .int .i64 t162, .int .i64 t163, .int .i64 t164, .int .i64 t165, .int .i64 t166, .string t167] 23 (0, 0))) ∧ (Below w.heap.size w w')) ?_ ?_
                        rotate_left
                        · intro hJ1_2
                          refine join_ (σ := Value × Value) 6 #[true, true, false, true, true, false, false, false, false, false] (fun s_ => [(22, s_.1), (25, s_.2)]) (fun s_ w' => (Kd.R (Kd.int .u8) 5 w' w.heap.size (fun k_ => some k_ ≠ (s_.2 : Value).ownBlock) s_.1 y169) ∧ (Kd.R (Kd.int .u8) 5 w' w.heap.size (fun k_ => some k_ ≠ (s_.1 : Value).ownBlock) s_.2 y172) ∧ (w'.heap[gb168]? = some (.cells #[.string t160, .int .i64 t161, .int .i64 t162, .int .i64 t163, .int .i64 t164, .int .i64 t165, .int .i64 t166, .string t167] 23 (0, 0))) ∧ (Below w.heap.size w w')) ?_ ?_
                          rotate_left
                          · intro hJ1_4
                            refine join_ (σ := Value) 6 #[true, false, false, true, true, true, false, false, false, false] (fun s_ => [(25, s_), (26, .string (strOfNums y172))]) (fun s_ w' => (Kd.R (Kd.int .u8) 5 w' w.heap.size (fun _ => True) s_ y172) ∧ (w'.heap[gb168]? = some (.cells #[.string t160, .int .i64 t161, .int .i64 t162, .int .i64 t163, .int .i64 t164, .int .i64 t165, .int .i64 t166, .string t167] 23 (0, 0))) ∧ (Below w.heap.size w w')) ?_ ?_
                            rotate_left
                            · intro hJ4_5
                              refine join_ (σ := Value) 7 #[true, true, false, true, false, false, false, false, false, false] (fun s_ => [(22, s_)]) (fun s_ w' => (Kd.R (Kd.int .u8) 5 w' w.heap.size (fun _ => True) s_ y169) ∧ (w'.heap[gb168]? = some (.cells #[.string t160, .int .i64 t161, .int .i64 t162, .int .i64 t163, .int .i64 t164, .int .i64 t165, .int .i64 t166, .string t167] 23 (0, 0))) ∧ (Below w.heap.size w w')) ?_ ?_
                              rotate_left
                              · intro hJ1
                                refine join_ (σ := Value) 7 #[true, false, false, true, true, false, false, false, false, false] (fun s_ => [(25, s_)]) (fun s_ w' => (Kd.R (Kd.int .u8) 5 w' w.heap.size (fun _ => True) s_ y172) ∧ (w'.heap[gb168]? = some (.cells #[.string t160, .int .i64 t161, .int .i64 t162, .int .i64 t163, .int .i64 t164, .int .i64 t165, .int .i64 t166, .string t167] 23 (0, 0))) ∧ (Below w.heap.size w w')) ?_ ?_
                                rotate_left
                                · intro hJ4
                                  refine two_ (i := 1) (j := 4) (Ni := some 22) (Nj := some 25) #[true, true, false, true, false, false, false, false, false, false] #[true, false, false, true, true, false, false, false, false, false] rfl rfl rfl rfl (two_of HT_.out (by kernel_rfl)) (by decide) (by decide) (fun K hK => ?_) (fun K hK => ?_)
                                  · skip
                                    refine Kd.R_make_step (Kd.int .u8) _ 5 (by rfl) (N := 22) rfl 37 _ _ rfl ji7 rfl rfl Try.underlying37 (.int .u8 0) 1 info5 rfl (by decide) (by omega) 0 (ok := fun _ => True) (okp := fun _ => True) rfl (fun _ hk => hk) trivial (of_decide_eq_true (by first | (with_reducible assumption) | assumption)) (Nat.le_trans (Nat.mul_le_mul_right _ (of_decide_eq_true (by first | (with_reducible assumption) | assumption) : ji7.toNat ≤ 281474976710656)) (by omega)) (Below.refl _ _) (Nat.le_refl _) ?_
                                    intro v170 w21 ho22 hb hg_ hnew_
                                    clear hg_ hnew_
                                    (first | rw [← Ny169.out] at ho22 | (simp only [Int.reduceToNat] at ho22; rw [← Ny169.out] at ho22))
                                    have n0_ := Aside0.mk (Kd.R_lower ho22 (below_size (by repeat (first | (with_reducible first | exact HB.out | apply below_alloc | apply pw_below_drewN | apply below_drew1 | refine below_set ?_ GE168.out) | exact HB.out))))
                                    have n1_ := Aside0.mk (blk_below (g := gb168) (o := .cells #[.string t160, .int .i64 t161, .int .i64 t162, .int .i64 t163, .int .i64 t164, .int .i64 t165, .int .i64 t166, .string t167] 23 (0, 0)) (by (with_reducible repeat (first | refine blk_drewN ?_ _ | refine blk_drew ?_ | refine blk_alloc ?_ _)); exact BK168.out) hb)
                                    have n2_ := Aside0.mk (below_step (by repeat (first | (with_reducible first | exact HB.out | apply below_alloc | apply pw_below_drewN | apply below_drew1 | refine below_set ?_ GE168.out) | exact HB.out)) hb)
                                    clear BK168
                                    clear HB
                                    have HO171 := n0_
                                    have BK168 := n1_
                                    have HB := n2_
                                    clear n0_ n1_ n2_
                                    clear hb ho22
                                    refine hK.out _ _ trivial (fun hHeld => ?_)
                                    clear hK K
                                    refine norm_ (a' := ?_) ?_ ?_
                                    rotate_left
                                    · show Act.put _ (some 22) _ = _
                                      simp only [Act.put, List.setIfInBounds_toArray, List.set_cons_zero, List.set_cons_succ, i64_w, i32_w]
                                      rfl
                                    exact norm_ (by first | (simp only [putAll, Act.put, List.setIfInBounds_toArray, List.set_cons_zero, List.set_cons_succ]; done) | (simp only [putAll, Act.put, List.setIfInBounds_toArray, List.set_cons_zero, List.set_cons_succ]; rfl)) (hJ1 (v170) _ ⟨(by (with_reducible repeat (first | apply Kd.R_alloc | apply Kd.R_drewN | apply Kd.R_drew)); exact HO171.out), (by (with_reducible repeat (first | refine blk_drewN ?_ _ | refine blk_drew ?_ | refine blk_alloc ?_ _)); exact BK168.out), (by repeat (first | (with_reducible first | exact HB.out | apply below_alloc | apply pw_below_drewN | apply below_drew1 | refine below_set ?_ GE168.out) | exact HB.out))⟩)
                                  · skip
                                    refine Kd.R_make_step (Kd.int .u8) _ 5 (by rfl) (N := 25) rfl 37 _ _ rfl ji10 rfl rfl Try.underlying37 (.int .u8 0) 1 info5 rfl (by decide) (by omega) 0 (ok := fun _ => True) (okp := fun _ => True) rfl (fun _ hk => hk) trivial (of_decide_eq_true (by first | (with_reducible assumption) | assumption)) (Nat.le_trans (Nat.mul_le_mul_right _ (of_decide_eq_true (by first | (with_reducible assumption) | assumption) : ji10.toNat ≤ 281474976710656)) (by omega)) (Below.refl _ _) (Nat.le_refl _) ?_
                                    intro v173 w21 ho22 hb hg_ hnew_
                                    clear hg_ hnew_
                                    (first | rw [← Ny172.out] at ho22 | (simp only [Int.reduceToNat] at ho22; rw [← Ny172.out] at ho22))
                                    have n0_ := Aside0.mk (Kd.R_lower ho22 (below_size (by repeat (first | (with_reducible first | exact HB.out | apply below_alloc | apply pw_below_drewN | apply below_drew1 | refine below_set ?_ GE168.out) | exact HB.out))))
                                    have n1_ := Aside0.mk (blk_below (g := gb168) (o := .cells #[.string t160, .int .i64 t161, .int .i64 t162, .int .i64 t163, .int .i64 t164, .int .i64 t165, .int .i64 t166, .string t167] 23 (0, 0)) (by (with_reducible repeat (first | refine blk_drewN ?_ _ | refine blk_drew ?_ | refine blk_alloc ?_ _)); exact BK168.out) hb)
                                    have n2_ := Aside0.mk (below_step (by repeat (first | (with_reducible first | exact HB.out | apply below_alloc | apply pw_below_drewN | apply below_drew1 | refine below_set ?_ GE168.out) | exact HB.out)) hb)
                                    clear BK168
                                    clear HB
                                    have HO174 := n0_
                                    have BK168 := n1_
                                    have HB := n2_
                                    clear n0_ n1_ n2_
                                    clear hb ho22
                                    refine hK.out _ _ trivial (fun hHeld => ?_)
                                    clear hK K
                                    refine norm_ (a' := ?_) ?_ ?_
                                    rotate_left
                                    · show Act.put _ (some 25) _ = _
                                      simp only [Act.put, List.setIfInBounds_toArray, List.set_cons_zero, List.set_cons_succ, i64_w, i32_w]
                                      rfl
                                    exact norm_ (by first | (simp only [putAll, Act.put, List.setIfInBounds_toArray, List.set_cons_zero, List.set_cons_succ]; done) | (simp only [putAll, Act.put, List.setIfInBounds_toArray, List.set_cons_zero, List.set_cons_succ]; rfl)) (hJ4 (v173) _ ⟨(by (with_reducible repeat (first | apply Kd.R_alloc | apply Kd.R_drewN | apply Kd.R_drew)); exact HO174.out), (by (with_reducible repeat (first | refine blk_drewN ?_ _ | refine blk_drew ?_ | refine blk_alloc ?_ _)); exact BK168.out), (by repeat (first | (with_reducible first | exact HB.out | apply below_alloc | apply pw_below_drewN | apply below_drew1 | refine below_set ?_ GE168.out) | exact HB.out))⟩)
                                · skip
                                  rintro v173 w23 ⟨h0_, h1_, h2_⟩
                                  have n0_ : Aside0 (Kd.R (Kd.int .u8) 5 w23 w.heap.size (fun _ => True) v173 y172) := ⟨h0_⟩
                                  have n1_ : Aside0 (w23.heap[gb168]? = some (.cells #[.string t160, .int .i64 t161, .int .i64 t162, .int .i64 t163, .int .i64 t164, .int .i64 t165, .int .i64 t166, .string t167] 23 (0, 0))) := ⟨h1_⟩
                                  have n2_ : Aside0 (Below w.heap.size w w23) := ⟨h2_⟩
                                  clear BK168
                                  clear HB
                                  clear h0_ h1_ h2_
                                  have HO174 := n0_
                                  have BK168 := n1_
                                  have HB := n2_
                                  clear n0_ n1_ n2_
                                  have hHeld := trivial
                                  refine norm_ (a' := ?_) ?_ ?_
                                  rotate_left
                                  · simp only [putAll, Act.put, List.setIfInBounds_toArray, List.set_cons_zero, List.set_cons_succ]
                                    rfl
                                  refine two_ (i := 1) (j := 5) (Ni := some 22) (Nj := some 26) #[true, true, false, true, true, false, false, false, false, false] #[true, false, false, true, true, true, false, false, false, false] rfl rfl rfl rfl (two_of HT_.out (by kernel_rfl)) (by decide) (by decide) (fun K hK => ?_) (fun K hK => ?_)
                                  · skip
                                    refine Kd.R_make_step (Kd.int .u8) _ 5 (by rfl) (N := 22) rfl 37 _ _ rfl ji7 rfl rfl Try.underlying37 (.int .u8 0) 1 info5 rfl (by decide) (by omega) 0 (ok := fun _ => True) (okp := fun _ => True) rfl (fun _ hk => hk) trivial (of_decide_eq_true (by first | (with_reducible assumption) | assumption)) (Nat.le_trans (Nat.mul_le_mul_right _ (of_decide_eq_true (by first | (with_reducible assumption) | assumption) : ji7.toNat ≤ 281474976710656)) (by omega)) (Below.refl _ _) (Nat.le_refl _) ?_
                                    intro v170 w24 ho25 hb hg_ hnew_
                                    clear hg_ hnew_
                                    (first | rw [← Ny169.out] at ho25 | (simp only [Int.reduceToNat] at ho25; rw [← Ny169.out] at ho25))
                                    have n0_ := Aside0.mk (Kd.R_elder' (by (with_reducible repeat (first | apply Kd.R_alloc | apply Kd.R_drewN | apply Kd.R_drew)); exact HO174.out) (Kd.R_base ho25) hb)
                                    have n1_ := Aside0.mk (Kd.R_lower (Kd.R_new' ho25 (Kd.R_lt (by (with_reducible repeat (first | apply Kd.R_alloc | apply Kd.R_drewN | apply Kd.R_drew)); exact HO174.out))) (below_size (by repeat (first | (with_reducible first | exact HB.out | apply below_alloc | apply pw_below_drewN | apply below_drew1 | refine below_set ?_ GE168.out) | exact HB.out))))
                                    have n2_ := Aside0.mk (blk_below (g := gb168) (o := .cells #[.string t160, .int .i64 t161, .int .i64 t162, .int .i64 t163, .int .i64 t164, .int .i64 t165, .int .i64 t166, .string t167] 23 (0, 0)) (by (with_reducible repeat (first | refine blk_drewN ?_ _ | refine blk_drew ?_ | refine blk_alloc ?_ _)); exact BK168.out) hb)
                                    have n3_ := Aside0.mk (below_step (by repeat (first | (with_reducible first | exact HB.out | apply below_alloc | apply pw_below_drewN | apply below_drew1 | refine below_set ?_ GE168.out) | exact HB.out)) hb)
                                    clear HO174
                                    clear BK168
                                    clear HB
                                    have HO174 := n0_
                                    have HO171 := n1_
                                    have BK168 := n2_
                                    have HB := n3_
                                    clear n0_ n1_ n2_ n3_
                                    clear hb ho25
                                    refine hK.out _ _ trivial (fun hHeld => ?_)
                                    clear hK K
                                    refine norm_ (a' := ?_) ?_ ?_
                                    rotate_left
                                    · show Act.put _ (some 22) _ = _
                                      simp only [Act.put, List.setIfInBounds_toArray, List.set_cons_zero, List.set_cons_succ, i64_w, i32_w]
                                      rfl
                                    exact norm_ (by first | (simp only [putAll, Act.put, List.setIfInBounds_toArray, List.set_cons_zero, List.set_cons_succ]; done) | (simp only [putAll, Act.put, List.setIfInBounds_toArray, List.set_cons_zero, List.set_cons_succ]; rfl)) (hJ1_4 (v170, v173) _ ⟨(by (with_reducible repeat (first | apply Kd.R_alloc | apply Kd.R_drewN | apply Kd.R_drew)); exact Kd.R_mono HO171.out (fun _ hk => hk.2)), (by (with_reducible repeat (first | apply Kd.R_alloc | apply Kd.R_drewN | apply Kd.R_drew)); exact Kd.R_mono HO174.out (fun _ hk => hk.2)), (by (with_reducible repeat (first | refine blk_drewN ?_ _ | refine blk_drew ?_ | refine blk_alloc ?_ _)); exact BK168.out), (by repeat (first | (with_reducible first | exact HB.out | apply below_alloc | apply pw_below_drewN | apply below_drew1 | refine below_set ?_ GE168.out) | exact HB.out))⟩)
                                  · skip
                                    have hcv24 := own_string (P := Try.prog) Try.underlying37 Try.underlying5 Try.underlying9 (Kd.own_of_R HO174.out)
                                    refine value_ (w1 := ?_) (v := ?_) (by rfl) rfl ?_ ?_
                                    rotate_left 2
                                    · go_simp
                                      constructor
                                      · rfl
                                      · rfl
                                    clear hcv24
                                    refine hK.out _ _ trivial (fun hHeld => ?_)
                                    clear hK K
                                    refine norm_ (a' := ?_) ?_ ?_
                                    rotate_left
                                    · show Act.put _ (some 26) _ = _
                                      simp only [Act.put, List.setIfInBounds_toArray, List.set_cons_zero, List.set_cons_succ, i64_w, i32_w]
                                      rfl
                                    exact norm_ (by first | (simp only [putAll, Act.put, List.setIfInBounds_toArray, List.set_cons_zero, List.set_cons_succ]; done) | (simp only [putAll, Act.put, List.setIfInBounds_toArray, List.set_cons_zero, List.set_cons_succ]; rfl)) (hJ4_5 (v173) _ ⟨(by (with_reducible repeat (first | apply Kd.R_alloc | apply Kd.R_drewN | apply Kd.R_drew)); exact HO174.out), (by (with_reducible repeat (first | refine blk_drewN ?_ _ | refine blk_drew ?_ | refine blk_alloc ?_ _)); exact BK168.out), (by repeat (first | (with_reducible first | exact HB.out | apply below_alloc | apply pw_below_drewN | apply below_drew1 | refine below_set ?_ GE168.out) | exact HB.out))⟩)
                              · skip
                                rintro v170 w23 ⟨h0_, h1_, h2_⟩
                                have n0_ : Aside0 (Kd.R (Kd.int .u8) 5 w23 w.heap.size (fun _ => True) v170 y169) := ⟨h0_⟩
                                have n1_ : Aside0 (w23.heap[gb168]? = some (.cells #[.string t160, .int .i64 t161, .int .i64 t162, .int .i64 t163, .int .i64 t164, .int .i64 t165, .int .i64 t166, .string t167] 23 (0, 0))) := ⟨h1_⟩
                                have n2_ : Aside0 (Below w.heap.size w w23) := ⟨h2_⟩
                                clear BK168
                                clear HB
                                clear h0_ h1_ h2_
                                have HO171 := n0_
                                have BK168 := n1_
                                have HB := n2_
                                clear n0_ n1_ n2_
                                have hHeld := trivial
                                refine norm_ (a' := ?_) ?_ ?_
                                rotate_left
                                · simp only [putAll, Act.put, List.setIfInBounds_toArray, List.set_cons_zero, List.set_cons_succ]
                                  rfl
                                refine two_ (i := 2) (j := 4) (Ni := some 23) (Nj := some 25) #[true, true, true, true, false, false, false, false, false, false] #[true, true, false, true, true, false, false, false, false, false] rfl rfl rfl rfl (two_of HT_.out (by kernel_rfl)) (by decide) (by decide) (fun K hK => ?_) (fun K hK => ?_)
                                · skip
                                  have hcv24 := own_string (P := Try.prog) Try.underlying37 Try.underlying5 Try.underlying9 (Kd.own_of_R HO171.out)
                                  refine value_ (w1 := ?_) (v := ?_) (by rfl) rfl ?_ ?_
                                  rotate_left 2
                                  · go_simp
                                    constructor
                                    · rfl
                                    · rfl
                                  clear hcv24
                                  refine hK.out _ _ trivial (fun hHeld => ?_)
                                  clear hK K
                                  refine norm_ (a' := ?_) ?_ ?_
                                  rotate_left
                                  · show Act.put _ (some 23) _ = _
                                    simp only [Act.put, List.setIfInBounds_toArray, List.set_cons_zero, List.set_cons_succ, i64_w, i32_w]
                                    rfl
                                  refine pure_ (i := 6) (N := some 27) (v := ?_) (a' := ?_) #[true, true, true, true, false, false, true, false, false, false] rfl rfl (any_of HT_.out (by kernel_rfl)) (fun _ _ _ h => h) (Or.inl ⟨by rfl, ?_⟩) ?_ ?_
                                  rotate_left
                                  · intro w'
                                    go_simp
                                    with_reducible rfl
                                  rotate_left
                                  · simp only [Act.put, List.setIfInBounds_toArray, List.set_cons_zero, List.set_cons_succ, i64_w, i32_w]
                                    rfl
                                  exact norm_ (by first | (simp only [putAll, Act.put, List.setIfInBounds_toArray, List.set_cons_zero, List.set_cons_succ]; done) | (simp only [putAll, Act.put, List.setIfInBounds_toArray, List.set_cons_zero, List.set_cons_succ]; rfl)) (hJ1_2 (v170) _ ⟨(by (with_reducible repeat (first | apply Kd.R_alloc | apply Kd.R_drewN | apply Kd.R_drew)); exact HO171.out), (by (with_reducible repeat (first | refine blk_drewN ?_ _ | refine blk_drew ?_ | refine blk_alloc ?_ _)); exact BK168.out), (by repeat (first | (with_reducible first | exact HB.out | apply below_alloc | apply pw_below_drewN | apply below_drew1 | refine below_set ?_ GE168.out) | exact HB.out))⟩)
                                · skip
                                  refine Kd.R_make_step (Kd.int .u8) _ 5 (by rfl) (N := 25) rfl 37 _ _ rfl ji10 rfl rfl Try.underlying37 (.int .u8 0) 1 info5 rfl (by decide) (by omega) 0 (ok := fun _ => True) (okp := fun _ => True) rfl (fun _ hk => hk) trivial (of_decide_eq_true (by first | (with_reducible assumption) | assumption)) (Nat.le_trans (Nat.mul_le_mul_right _ (of_decide_eq_true (by first | (with_reducible assumption) | assumption) : ji10.toNat ≤ 281474976710656)) (by omega)) (Below.refl _ _) (Nat.le_refl _) ?_
                                  intro v173 w24 ho25 hb hg_ hnew_
                                  clear hg_ hnew_
                                  (first | rw [← Ny172.out] at ho25 | (simp only [Int.reduceToNat] at ho25; rw [← Ny172.out] at ho25))
                                  have n0_ := Aside0.mk (Kd.R_elder' (by (with_reducible repeat (first | apply Kd.R_alloc | apply Kd.R_drewN | apply Kd.R_drew)); exact HO171.out) (Kd.R_base ho25) hb)
                                  have n1_ := Aside0.mk (Kd.R_lower (Kd.R_new' ho25 (Kd.R_lt (by (with_reducible repeat (first | apply Kd.R_alloc | apply Kd.R_drewN | apply Kd.R_drew)); exact HO171.out))) (below_size (by repeat (first | (with_reducible first | exact HB.out | apply below_alloc | apply pw_below_drewN | apply below_drew1 | refine below_set ?_ GE168.out) | exact HB.out))))
                                  have n2_ := Aside0.mk (blk_below (g := gb168) (o := .cells #[.string t160, .int .i64 t161, .int .i64 t162, .int .i64 t163, .int .i64 t164, .int .i64 t165, .int .i64 t166, .string t167] 23 (0, 0)) (by (with_reducible repeat (first | refine blk_drewN ?_ _ | refine blk_drew ?_ | refine blk_alloc ?_ _)); exact BK168.out) hb)
                                  have n3_ := Aside0.mk (below_step (by repeat (first | (with_reducible first | exact HB.out | apply below_alloc | apply pw_below_drewN | apply below_drew1 | refine below_set ?_ GE168.out) | exact HB.out)) hb)
                                  clear HO171
                                  clear BK168
                                  clear HB
                                  have HO171 := n0_
                                  have HO174 := n1_
                                  have BK168 := n2_
                                  have HB := n3_
                                  clear n0_ n1_ n2_ n3_
                                  clear hb ho25
                                  refine hK.out _ _ trivial (fun hHeld => ?_)
                                  clear hK K
                                  refine norm_ (a' := ?_) ?_ ?_
                                  rotate_left
                                  · show Act.put _ (some 25) _ = _
                                    simp only [Act.put, List.setIfInBounds_toArray, List.set_cons_zero, List.set_cons_succ, i64_w, i32_w]
                                    rfl
                                  exact norm_ (by first | (simp only [putAll, Act.put, List.setIfInBounds_toArray, List.set_cons_zero, List.set_cons_succ]; done) | (simp only [putAll, Act.put, List.setIfInBounds_toArray, List.set_cons_zero, List.set_cons_succ]; rfl)) (hJ1_4 (v170, v173) _ ⟨(by (with_reducible repeat (first | apply Kd.R_alloc | apply Kd.R_drewN | apply Kd.R_drew)); exact Kd.R_mono HO171.out (fun _ hk => hk.2)), (by (with_reducible repeat (first | apply Kd.R_alloc | apply Kd.R_drewN | apply Kd.R_drew)); exact Kd.R_mono HO174.out (fun _ hk => hk.2)), (by (with_reducible repeat (first | refine blk_drewN ?_ _ | refine blk_drew ?_ | refine blk_alloc ?_ _)); exact BK168.out), (by repeat (first | (with_reducible first | exact HB.out | apply below_alloc | apply pw_below_drewN | apply below_drew1 | refine below_set ?_ GE168.out) | exact HB.out))⟩)
                            · skip
                              rintro v173 w24 ⟨h0_, h1_, h2_⟩
                              have n0_ : Aside0 (Kd.R (Kd.int .u8) 5 w24 w.heap.size (fun _ => True) v173 y172) := ⟨h0_⟩
                              have n1_ : Aside0 (w24.heap[gb168]? = some (.cells #[.string t160, .int .i64 t161, .int .i64 t162, .int .i64 t163, .int .i64 t164, .int .i64 t165, .int .i64 t166, .string t167] 23 (0, 0))) := ⟨h1_⟩
                              have n2_ : Aside0 (Below w.heap.size w w24) := ⟨h2_⟩
                              clear BK168
                              clear HB
                              clear h0_ h1_ h2_
                              have HO174 := n0_
                              have BK168 := n1_
                              have HB := n2_
                              clear n0_ n1_ n2_
                              have hHeld := trivial
                              refine norm_ (a' := ?_) ?_ ?_
                              rotate_left
                              · simp only [putAll, Act.put, List.setIfInBounds_toArray, List.set_cons_zero, List.set_cons_succ]
                                rfl
                              refine one_ (i := 1) (N := some 22) #[true, true, false, true, true, true, false, false, false, false] rfl rfl (one_of HT_.out (by kernel_rfl)) (by decide) (fun K hK => ?_)
                              refine Kd.R_make_step (Kd.int .u8) _ 5 (by rfl) (N := 22) rfl 37 _ _ rfl ji7 rfl rfl Try.underlying37 (.int .u8 0) 1 info5 rfl (by decide) (by omega) 0 (ok := fun _ => True) (okp := fun _ => True) rfl (fun _ hk => hk) trivial (of_decide_eq_true (by first | (with_reducible assumption) | assumption)) (Nat.le_trans (Nat.mul_le_mul_right _ (of_decide_eq_true (by first | (with_reducible assumption) | assumption) : ji7.toNat ≤ 281474976710656)) (by omega)) (Below.refl _ _) (Nat.le_refl _) ?_
                              intro v170 w25 ho26 hb hg_ hnew_
                              clear hg_ hnew_
                              (first | rw [← Ny169.out] at ho26 | (simp only [Int.reduceToNat] at ho26; rw [← Ny169.out] at ho26))
                              have n0_ := Aside0.mk (Kd.R_elder' (by (with_reducible repeat (first | apply Kd.R_alloc | apply Kd.R_drewN | apply Kd.R_drew)); exact HO174.out) (Kd.R_base ho26) hb)
                              have n1_ := Aside0.mk (Kd.R_lower (Kd.R_new' ho26 (Kd.R_lt (by (with_reducible repeat (first | apply Kd.R_alloc | apply Kd.R_drewN | apply Kd.R_drew)); exact HO174.out))) (below_size (by repeat (first | (with_reducible first | exact HB.out | apply below_alloc | apply pw_below_drewN | apply below_drew1 | refine below_set ?_ GE168.out) | exact HB.out))))
                              have n2_ := Aside0.mk (blk_below (g := gb168) (o := .cells #[.string t160, .int .i64 t161, .int .i64 t162, .int .i64 t163, .int .i64 t164, .int .i64 t165, .int .i64 t166, .string t167] 23 (0, 0)) (by (with_reducible repeat (first | refine blk_drewN ?_ _ | refine blk_drew ?_ | refine blk_alloc ?_ _)); exact BK168.out) hb)
                              have n3_ := Aside0.mk (below_step (by repeat (first | (with_reducible first | exact HB.out | apply below_alloc | apply pw_below_drewN | apply below_drew1 | refine below_set ?_ GE168.out) | exact HB.out)) hb)
                              clear HO174
                              clear BK168
                              clear HB
                              have HO174 := n0_
                              have HO171 := n1_
                              have BK168 := n2_
                              have HB := n3_
                              clear n0_ n1_ n2_ n3_
                              clear hb ho26
                              refine hK.out _ _ trivial (fun hHeld => ?_)
                              clear hK K
                              refine norm_ (a' := ?_) ?_ ?_
                              rotate_left
                              · show Act.put _ (some 22) _ = _
                                simp only [Act.put, List.setIfInBounds_toArray, List.set_cons_zero, List.set_cons_succ, i64_w, i32_w]
                                rfl
                              exact norm_ (by first | (simp only [putAll, Act.put, List.setIfInBounds_toArray, List.set_cons_zero, List.set_cons_succ]; done) | (simp only [putAll, Act.put, List.setIfInBounds_toArray, List.set_cons_zero, List.set_cons_succ]; rfl)) (hJ1_4_5 (v170, v173) _ ⟨(by (with_reducible repeat (first | apply Kd.R_alloc | apply Kd.R_drewN | apply Kd.R_drew)); exact Kd.R_mono HO171.out (fun _ hk => hk.2)), (by (with_reducible repeat (first | apply Kd.R_alloc | apply Kd.R_drewN | apply Kd.R_drew)); exact Kd.R_mono HO174.out (fun _ hk => hk.2)), (by (with_reducible repeat (first | refine blk_drewN ?_ _ | refine blk_drew ?_ | refine blk_alloc ?_ _)); exact BK168.out), (by repeat (first | (with_reducible first | exact HB.out | apply below_alloc | apply pw_below_drewN | apply below_drew1 | refine below_set ?_ GE168.out) | exact HB.out))⟩)
                          · skip
                            rintro ⟨v170, v173⟩ w25 ⟨h0_, h1_, h2_, h3_⟩
                            have n0_ : Aside0 (Kd.R (Kd.int .u8) 5 w25 w.heap.size (fun k_ => some k_ ≠ (v173 : Value).ownBlock) v170 y169) := ⟨h0_⟩
                            have n1_ : Aside0 (Kd.R (Kd.int .u8) 5 w25 w.heap.size (fun k_ => some k_ ≠ (v170 : Value).ownBlock) v173 y172) := ⟨h1_⟩
                            have n2_ : Aside0 (w25.heap[gb168]? = some (.cells #[.string t160, .int .i64 t161, .int .i64 t162, .int .i64 t163, .int .i64 t164, .int .i64 t165, .int .i64 t166, .string t167] 23 (0, 0))) := ⟨h2_⟩
                            have n3_ : Aside0 (Below w.heap.size w w25) := ⟨h3_⟩
                            clear BK168
                            clear HB
                            clear h0_ h1_ h2_ h3_
                            have HO171 := n0_
                            have HO174 := n1_
                            have BK168 := n2_
                            have HB := n3_
                            clear n0_ n1_ n2_ n3_
                            have hHeld := trivial
                            refine norm_ (a' := ?_) ?_ ?_
                            rotate_left
                            · simp only [putAll, Act.put, List.setIfInBounds_toArray, List.set_cons_zero, List.set_cons_succ]
                              rfl
                            refine two_ (i := 2) (j := 5) (Ni := some 23) (Nj := some 26) #[true, true, true, true, true, false, false, false, false, false] #[true, true, false, true, true, true, false, false, false, false] rfl rfl rfl rfl (two_of HT_.out (by kernel_rfl)) (by decide) (by decide) (fun K hK => ?_) (fun K hK => ?_)
                            · skip
                              have hcv26 := own_string (P := Try.prog) Try.underlying37 Try.underlying5 Try.underlying9 (Kd.own_of_R HO171.out)
                              refine value_ (w1 := ?_) (v := ?_) (by rfl) rfl ?_ ?_
                              rotate_left 2
                              · go_simp
                                constructor
                                · rfl
                                · rfl
                              clear hcv26
                              refine hK.out _ _ trivial (fun hHeld => ?_)
                              clear hK K
                              refine norm_ (a' := ?_) ?_ ?_
                              rotate_left
                              · show Act.put _ (some 23) _ = _
                                simp only [Act.put, List.setIfInBounds_toArray, List.set_cons_zero, List.set_cons_succ, i64_w, i32_w]
                                rfl
                              refine pure_ (i := 6) (N := some 27) (v := ?_) (a' := ?_) #[true, true, true, true, true, false, true, false, false, false] rfl rfl (any_of HT_.out (by kernel_rfl)) (fun _ _ _ h => h) (Or.inl ⟨by rfl, ?_⟩) ?_ ?_
                              rotate_left
                              · intro w'
                                go_simp
                                with_reducible rfl
                              rotate_left
                              · simp only [Act.put, List.setIfInBounds_toArray, List.set_cons_zero, List.set_cons_succ, i64_w, i32_w]
                                rfl
                              exact norm_ (by first | (simp only [putAll, Act.put, List.setIfInBounds_toArray, List.set_cons_zero, List.set_cons_succ]; done) | (simp only [putAll, Act.put, List.setIfInBounds_toArray, List.set_cons_zero, List.set_cons_succ]; rfl)) (hJ1_2_4 (v170, v173) _ ⟨(by (with_reducible repeat (first | apply Kd.R_alloc | apply Kd.R_drewN | apply Kd.R_drew)); exact HO171.out), (by (with_reducible repeat (first | apply Kd.R_alloc | apply Kd.R_drewN | apply Kd.R_drew)); exact HO174.out), (by (with_reducible repeat (first | refine blk_drewN ?_ _ | refine blk_drew ?_ | refine blk_alloc ?_ _)); exact BK168.out), (by repeat (first | (with_reducible first | exact HB.out | apply below_alloc | apply pw_below_drewN | apply below_drew1 | refine below_set ?_ GE168.out) | exact HB.out))⟩)
                            · skip
                              have hcv26 := own_string (P := Try.prog) Try.underlying37 Try.underlying5 Try.underlying9 (Kd.own_of_R HO174.out)
                              refine value_ (w1 := ?_) (v := ?_) (by rfl) rfl ?_ ?_
                              rotate_left 2
                              · go_simp
                                constructor
                                · rfl
                                · rfl
                              clear hcv26
                              refine hK.out _ _ trivial (fun hHeld => ?_)
                              clear hK K
                              refine norm_ (a' := ?_) ?_ ?_
                              rotate_left
                              · show Act.put _ (some 26) _ = _
                                simp only [Act.put, List.setIfInBounds_toArray, List.set_cons_zero, List.set_cons_succ, i64_w, i32_w]
                                rfl
                              exact norm_ (by first | (simp only [putAll, Act.put, List.setIfInBounds_toArray, List.set_cons_zero, List.set_cons_succ]; done) | (simp only [putAll, Act.put, List.setIfInBounds_toArray, List.set_cons_zero, List.set_cons_succ]; rfl)) (hJ1_4_5 (v170, v173) _ ⟨(by (with_reducible repeat (first | apply Kd.R_alloc | apply Kd.R_drewN | apply Kd.R_drew)); exact HO171.out), (by (with_reducible repeat (first | apply Kd.R_alloc | apply Kd.R_drewN | apply Kd.R_drew)); exact HO174.out), (by (with_reducible repeat (first | refine blk_drewN ?_ _ | refine blk_drew ?_ | refine blk_alloc ?_ _)); exact BK168.out), (by repeat (first | (with_reducible first | exact HB.out | apply below_alloc | apply pw_below_drewN | apply below_drew1 | refine below_set ?_ GE168.out) | exact HB.out))⟩)
                        · skip
                          rintro v170 w24 ⟨h0_, h1_, h2_⟩
                          have n0_ : Aside0 (Kd.R (Kd.int .u8) 5 w24 w.heap.size (fun _ => True) v170 y169) := ⟨h0_⟩
                          have n1_ : Aside0 (w24.heap[gb168]? = some (.cells #[.string t160, .int .i64 t161, .int .i64 t162, .int .i64 t163, .int .i64 t164, .int .i64 t165, .int .i64 t166, .string t167] 23 (0, 0))) := ⟨h1_⟩
                          have n2_ : Aside0 (Below w.heap.size w w24) := ⟨h2_⟩
                          clear BK168
                          clear HB
                          clear h0_ h1_ h2_
                          have HO171 := n0_
                          have BK168 := n1_
                          have HB := n2_
                          clear n0_ n1_ n2_
                          have hHeld := trivial
                          refine norm_ (a' := ?_) ?_ ?_
                          rotate_left
                          · simp only [putAll, Act.put, List.setIfInBounds_toArray, List.set_cons_zero, List.set_cons_succ]
                            rfl
                          refine two_ (i := 4) (j := 7) (Ni := some 25) (Nj := none) #[true, true, true, true, true, false, true, false, false, false] #[true, true, true, true, false, false, true, true, false, false] rfl rfl rfl rfl (two_of HT_.out (by kernel_rfl)) (by decide) (by decide) (fun K hK => ?_) (fun K hK => ?_)
                          · skip
                            refine Kd.R_make_step (Kd.int .u8) _ 5 (by rfl) (N := 25) rfl 37 _ _ rfl ji10 rfl rfl Try.underlying37 (.int .u8 0) 1 info5 rfl (by decide) (by omega) 0 (ok := fun _ => True) (okp := fun _ => True) rfl (fun _ hk => hk) trivial (of_decide_eq_true (by first | (with_reducible assumption) | assumption)) (Nat.le_trans (Nat.mul_le_mul_right _ (of_decide_eq_true (by first | (with_reducible assumption) | assumption) : ji10.toNat ≤ 281474976710656)) (by omega)) (Below.refl _ _) (Nat.le_refl _) ?_
                            intro v173 w25 ho26 hb hg_ hnew_
                            clear hg_ hnew_
                            (first | rw [← Ny172.out] at ho26 | (simp only [Int.reduceToNat] at ho26; rw [← Ny172.out] at ho26))
                            have n0_ := Aside0.mk (Kd.R_elder' (by (with_reducible repeat (first | apply Kd.R_alloc | apply Kd.R_drewN | apply Kd.R_drew)); exact HO171.out) (Kd.R_base ho26) hb)
                            have n1_ := Aside0.mk (Kd.R_lower (Kd.R_new' ho26 (Kd.R_lt (by (with_reducible repeat (first | apply Kd.R_alloc | apply Kd.R_drewN | apply Kd.R_drew)); exact HO171.out))) (below_size (by repeat (first | (with_reducible first | exact HB.out | apply below_alloc | apply pw_below_drewN | apply below_drew1 | refine below_set ?_ GE168.out) | exact HB.out))))
                            have n2_ := Aside0.mk (blk_below (g := gb168) (o := .cells #[.string t160, .int .i64 t161, .int .i64 t162, .int .i64 t163, .int .i64 t164, .int .i64 t165, .int .i64 t166, .string t167] 23 (0, 0)) (by (with_reducible repeat (first | refine blk_drewN ?_ _ | refine blk_drew ?_ | refine blk_alloc ?_ _)); exact BK168.out) hb)
                            have n3_ := Aside0.mk (below_step (by repeat (first | (with_reducible first | exact HB.out | apply below_alloc | apply pw_below_drewN | apply below_drew1 | refine below_set ?_ GE168.out) | exact HB.out)) hb)
                            clear HO171
                            clear BK168
                            clear HB
                            have HO171 := n0_
                            have HO174 := n1_
                            have BK168 := n2_
                            have HB := n3_
                            clear n0_ n1_ n2_ n3_
                            clear hb ho26
                            refine hK.out _ _ trivial (fun hHeld => ?_)
                            clear hK K
                            refine norm_ (a' := ?_) ?_ ?_
                            rotate_left
                            · show Act.put _ (some 25) _ = _
                              simp only [Act.put, List.setIfInBounds_toArray, List.set_cons_zero, List.set_cons_succ, i64_w, i32_w]
                              rfl
                            exact norm_ (by first | (simp only [putAll, Act.put, List.setIfInBounds_toArray, List.set_cons_zero, List.set_cons_succ]; done) | (simp only [putAll, Act.put, List.setIfInBounds_toArray, List.set_cons_zero, List.set_cons_succ]; rfl)) (hJ1_2_4 (v170, v173) _ ⟨(by (with_reducible repeat (first | apply Kd.R_alloc | apply Kd.R_drewN | apply Kd.R_drew)); exact Kd.R_mono HO171.out (fun _ hk => hk.2)), (by (with_reducible repeat (first | apply Kd.R_alloc | apply Kd.R_drewN | apply Kd.R_drew)); exact Kd.R_mono HO174.out (fun _ hk => hk.2)), (by (with_reducible repeat (first | refine blk_drewN ?_ _ | refine blk_drew ?_ | refine blk_alloc ?_ _)); exact BK168.out), (by repeat (first | (with_reducible first | exact HB.out | apply below_alloc | apply pw_below_drewN | apply below_drew1 | refine below_set ?_ GE168.out) | exact HB.out))⟩)
                          · skip
                            have hs25 : w24.cell? ⟨gb168, 0, none⟩ = some (.string t160) := (blk_cell BK168.out 0).trans rfl
                            have hfs25 := blk_frozen BK168.out 0
                            refine skip_ (w1 := ?_) (by rfl) rfl ?_ ?_
                            rotate_left
                            · go_simp
                              rfl
                            refine hK.out _ _ trivial (fun hHeld => ?_)
                            clear hK K
                            exact norm_ (by first | (simp only [putAll, Act.put, List.setIfInBounds_toArray, List.set_cons_zero, List.set_cons_succ]; done) | (simp only [putAll, Act.put, List.setIfInBounds_toArray, List.set_cons_zero, List.set_cons_succ]; rfl)) (hJ1_2_7 (v170) _ ⟨(by (with_reducible repeat (first | apply Kd.R_alloc | apply Kd.R_drewN | apply Kd.R_drew)); exact Kd.R_mono (Kd.R_far (p := ⟨gb168, 0, none⟩) (Kd.R_types HO171.out BK168.out (by decide)) (fun _ hk => hk.2) (.string (strOfNums y169))) (fun _ hk => trivial)), (by (with_reducible repeat (first | refine blk_drewN ?_ _ | refine blk_drew ?_ | refine blk_alloc ?_ _)); refine blk_put (cs := #[.string t160, .int .i64 t161, .int .i64 t162, .int .i64 t163, .int .i64 t164, .int .i64 t165, .int .i64 t166, .string t167]) ?_ 0 _ rfl; (with_reducible repeat (first | refine blk_drewN ?_ _ | refine blk_drew ?_ | refine blk_alloc ?_ _)); exact BK168.out), (by repeat (first | (with_reducible first | exact HB.out | apply below_alloc | apply pw_below_drewN | apply below_drew1 | refine below_set ?_ GE168.out) | exact HB.out))⟩)
                      · skip
                        rintro ⟨v170, v173⟩ w26 ⟨h0_, h1_, h2_, h3_⟩
                        have n0_ : Aside0 (Kd.R (Kd.int .u8) 5 w26 w.heap.size (fun k_ => some k_ ≠ (v173 : Value).ownBlock) v170 y169) := ⟨h0_⟩
                        have n1_ : Aside0 (Kd.R (Kd.int .u8) 5 w26 w.heap.size (fun k_ => some k_ ≠ (v170 : Value).ownBlock) v173 y172) := ⟨h1_⟩
                        have n2_ : Aside0 (w26.heap[gb168]? = some (.cells #[.string t160, .int .i64 t161, .int .i64 t162, .int .i64 t163, .int .i64 t164, .int .i64 t165, .int .i64 t166, .string t167] 23 (0, 0))) := ⟨h2_⟩
                        have n3_ : Aside0 (Below w.heap.size w w26) := ⟨h3_⟩
                        clear BK168
                        clear HB
                        clear h0_ h1_ h2_ h3_
                        have HO171 := n0_
                        have HO174 := n1_
                        have BK168 := n2_
                        have HB := n3_
                        clear n0_ n1_ n2_ n3_
                        have hHeld := trivial
                        refine norm_ (a' := ?_) ?_ ?_
                        rotate_left
                        · simp only [putAll, Act.put, List.setIfInBounds_toArray, List.set_cons_zero, List.set_cons_succ]
                          rfl
                        refine one_ (i := 2) (N := some 23) #[true, true, true, true, true, true, false, false, false, false] rfl rfl (one_of HT_.out (by kernel_rfl)) (by decide) (fun K hK => ?_)
                        have hcv27 := own_string (P := Try.prog) Try.underlying37 Try.underlying5 Try.underlying9 (Kd.own_of_R HO171.out)
                        refine value_ (w1 := ?_) (v := ?_) (by rfl) rfl ?_ ?_
                        rotate_left 2
                        · go_simp
                          constructor
                          · rfl
                          · rfl
                        clear hcv27
                        refine hK.out _ _ trivial (fun hHeld => ?_)
                        clear hK K
                        refine norm_ (a' := ?_) ?_ ?_
                        rotate_left
                        · show Act.put _ (some 23) _ = _
                          simp only [Act.put, List.setIfInBounds_toArray, List.set_cons_zero, List.set_cons_succ, i64_w, i32_w]
                          rfl
                        refine pure_ (i := 6) (N := some 27) (v := ?_) (a' := ?_) #[true, true, true, true, true, true, true, false, false, false] rfl rfl (any_of HT_.out (by kernel_rfl)) (fun _ _ _ h => h) (Or.inl ⟨by rfl, ?_⟩) ?_ ?_
                        rotate_left
                        · intro w'
                          go_simp
                          with_reducible rfl
                        rotate_left
                        · simp only [Act.put, List.setIfInBounds_toArray, List.set_cons_zero, List.set_cons_succ, i64_w, i32_w]
                          rfl
                        exact norm_ (by first | (simp only [putAll, Act.put, List.setIfInBounds_toArray, List.set_cons_zero, List.set_cons_succ]; done) | (simp only [putAll, Act.put, List.setIfInBounds_toArray, List.set_cons_zero, List.set_cons_succ]; rfl)) (hJ1_2_4_5 (v170, v173) _ ⟨(by (with_reducible repeat (first | apply Kd.R_alloc | apply Kd.R_drewN | apply Kd.R_drew)); exact HO171.out), (by (with_reducible repeat (first | apply Kd.R_alloc | apply Kd.R_drewN | apply Kd.R_drew)); exact HO174.out), (by (with_reducible repeat (first | refine blk_drewN ?_ _ | refine blk_drew ?_ | refine blk_alloc ?_ _)); exact BK168.out), (by repeat (first | (with_reducible first | exact HB.out | apply below_alloc | apply pw_below_drewN | apply below_drew1 | refine below_set ?_ GE168.out) | exact HB.out))⟩)
                    · skip
                      rintro v170 w25 ⟨h0_, h1_, h2_⟩
                      have n0_ : Aside0 (Kd.R (Kd.int .u8) 5 w25 w.heap.size (fun _ => True) v170 y169) := ⟨h0_⟩
                      have n1_ : Aside0 (w25.heap[gb168]? = some (.cells #[.string (strOfNums y169), .int .i64 t161, .int .i64 t162, .int .i64 t163, .int .i64 t164, .int .i64 t165, .int .i64 t166, .string t167] 23 (0, 0))) := ⟨h1_⟩
                      have n2_ : Aside0 (Below w.heap.size w w25) := ⟨h2_⟩
                      clear BK168
                      clear HB
                      clear h0_ h1_ h2_
                      have HO171 := n0_
                      have BK168 := n1_
                      have HB := n2_
                      clear n0_ n1_ n2_
                      have hHeld := trivial
                      refine norm_ (a' := ?_) ?_ ?_
                      rotate_left
                      · simp only [putAll, Act.put, List.setIfInBounds_toArray, List.set_cons_zero, List.set_cons_succ]
                        rfl
                      refine one_ (i := 4) (N := some 25) #[true, true, true, true, true, false, true, true, false, false] rfl rfl (one_of HT_.out (by kernel_rfl)) (by decide) (fun K hK => ?_)
                      refine Kd.R_make_step (Kd.int .u8) _ 5 (by rfl) (N := 25) rfl 37 _ _ rfl ji10 rfl rfl Try.underlying37 (.int .u8 0) 1 info5 rfl (by decide) (by omega) 0 (ok := fun _ => True) (okp := fun _ => True) rfl (fun _ hk => hk) trivial (of_decide_eq_true (by first | (with_reducible assumption) | assumption)) (Nat.le_trans (Nat.mul_le_mul_right _ (of_decide_eq_true (by first | (with_reducible assumption) | assumption) : ji10.toNat ≤ 281474976710656)) (by omega)) (Below.refl _ _) (Nat.le_refl _) ?_
                      intro v173 w26 ho27 hb hg_ hnew_
                      clear hg_ hnew_
                      (first | rw [← Ny172.out] at ho27 | (simp only [Int.reduceToNat] at ho27; rw [← Ny172.out] at ho27))
                      have n0_ := Aside0.mk (Kd.R_elder' (by (with_reducible repeat (first | apply Kd.R_alloc | apply Kd.R_drewN | apply Kd.R_drew)); exact HO171.out) (Kd.R_base ho27) hb)
                      have n1_ := Aside0.mk (Kd.R_lower (Kd.R_new' ho27 (Kd.R_lt (by (with_reducible repeat (first | apply Kd.R_alloc | apply Kd.R_drewN | apply Kd.R_drew)); exact HO171.out))) (below_size (by repeat (first | (with_reducible first | exact HB.out | apply below_alloc | apply pw_below_drewN | apply below_drew1 | refine below_set ?_ GE168.out) | exact HB.out))))
                      have n2_ := Aside0.mk (blk_below (g := gb168) (o := .cells #[.string (strOfNums y169), .int .i64 t161, .int .i64 t162, .int .i64 t163, .int .i64 t164, .int .i64 t165, .int .i64 t166, .string t167] 23 (0, 0)) (by (with_reducible repeat (first | refine blk_drewN ?_ _ | refine blk_drew ?_ | refine blk_alloc ?_ _)); exact BK168.out) hb)
                      have n3_ := Aside0.mk (below_step (by repeat (first | (with_reducible first | exact HB.out | apply below_alloc | apply pw_below_drewN | apply below_drew1 | refine below_set ?_ GE168.out) | exact HB.out)) hb)
                      clear HO171
                      clear BK168
                      clear HB
                      have HO171 := n0_
                      have HO174 := n1_
                      have BK168 := n2_
                      have HB := n3_
                      clear n0_ n1_ n2_ n3_
                      clear hb ho27
                      refine hK.out _ _ trivial (fun hHeld => ?_)
                      clear hK K
                      refine norm_ (a' := ?_) ?_ ?_
                      rotate_left
                      · show Act.put _ (some 25) _ = _
                        simp only [Act.put, List.setIfInBounds_toArray, List.set_cons_zero, List.set_cons_succ, i64_w, i32_w]
                        rfl
                      exact norm_ (by first | (simp only [putAll, Act.put, List.setIfInBounds_toArray, List.set_cons_zero, List.set_cons_succ]; done) | (simp only [putAll, Act.put, List.setIfInBounds_toArray, List.set_cons_zero, List.set_cons_succ]; rfl)) (hJ1_2_4_7 (v170, v173) _ ⟨(by (with_reducible repeat (first | apply Kd.R_alloc | apply Kd.R_drewN | apply Kd.R_drew)); exact Kd.R_mono HO171.out (fun _ hk => hk.2)), (by (with_reducible repeat (first | apply Kd.R_alloc | apply Kd.R_drewN | apply Kd.R_drew)); exact Kd.R_mono HO174.out (fun _ hk => hk.2)), (by (with_reducible repeat (first | refine blk_drewN ?_ _ | refine blk_drew ?_ | refine blk_alloc ?_ _)); exact BK168.out), (by repeat (first | (with_reducible first | exact HB.out | apply below_alloc | apply pw_below_drewN | apply below_drew1 | refine below_set ?_ GE168.out) | exact HB.out))⟩)
                  · skip
                    rintro ⟨v170, v173⟩ w26 ⟨h0_, h1_, h2_, h3_⟩
                    have n0_ : Aside0 (Kd.R (Kd.int .u8) 5 w26 w.heap.size (fun k_ => some k_ ≠ (v173 : Value).ownBlock) v170 y169) := ⟨h0_⟩
                    have n1_ : Aside0 (Kd.R (Kd.int .u8) 5 w26 w.heap.size (fun k_ => some k_ ≠ (v170 : Value).ownBlock) v173 y172) := ⟨h1_⟩
                    have n2_ : Aside0 (w26.heap[gb168]? = some (.cells #[.string t160, .int .i64 t161, .int .i64 t162, .int .i64 t163, .int .i64 t164, .int .i64 t165, .int .i64 t166, .string t167] 23 (0, 0))) := ⟨h2_⟩
                    have n3_ : Aside0 (Below w.heap.size w w26) := ⟨h3_⟩
                    clear BK168
                    clear HB
                    clear h0_ h1_ h2_ h3_
                    have HO171 := n0_
                    have HO174 := n1_
                    have BK168 := n2_
                    have HB := n3_
                    clear n0_ n1_ n2_ n3_
                    have hHeld := trivial
                    refine norm_ (a' := ?_) ?_ ?_
                    rotate_left
                    · simp only [putAll, Act.put, List.setIfInBounds_toArray, List.set_cons_zero, List.set_cons_succ]
                      rfl
                    refine two_ (i := 5) (j := 7) (Ni := some 26) (Nj := none) #[true, true, true, true, true, true, true, false, false, false] #[true, true, true, true, true, false, true, true, false, false] rfl rfl rfl rfl (two_of HT_.out (by kernel_rfl)) (by decide) (by decide) (fun K hK => ?_) (fun K hK => ?_)
                    · skip
                      have hcv27 := own_string (P := Try.prog) Try.underlying37 Try.underlying5 Try.underlying9 (Kd.own_of_R HO174.out)
                      refine value_ (w1 := ?_) (v := ?_) (by rfl) rfl ?_ ?_
                      rotate_left 2
                      · go_simp
                        constructor
                        · rfl
                        · rfl
                      clear hcv27
                      refine hK.out _ _ trivial (fun hHeld => ?_)
                      clear hK K
                      refine norm_ (a' := ?_) ?_ ?_
                      rotate_left
                      · show Act.put _ (some 26) _ = _
                        simp only [Act.put, List.setIfInBounds_toArray, List.set_cons_zero, List.set_cons_succ, i64_w, i32_w]
                        rfl
                      exact norm_ (by first | (simp only [putAll, Act.put, List.setIfInBounds_toArray, List.set_cons_zero, List.set_cons_succ]; done) | (simp only [putAll, Act.put, List.setIfInBounds_toArray, List.set_cons_zero, List.set_cons_succ]; rfl)) (hJ1_2_4_5 (v170, v173) _ ⟨(by (with_reducible repeat (first | apply Kd.R_alloc | apply Kd.R_drewN | apply Kd.R_drew)); exact HO171.out), (by (with_reducible repeat (first | apply Kd.R_alloc | apply Kd.R_drewN | apply Kd.R_drew)); exact HO174.out), (by (with_reducible repeat (first | refine blk_drewN ?_ _ | refine blk_drew ?_ | refine blk_alloc ?_ _)); exact BK168.out), (by repeat (first | (with_reducible first | exact HB.out | apply below_alloc | apply pw_below_drewN | apply below_drew1 | refine below_set ?_ GE168.out) | exact HB.out))⟩)
                    · skip
                      have hs27 : w26.cell? ⟨gb168, 0, none⟩ = some (.string t160) := (blk_cell BK168.out 0).trans rfl
                      have hfs27 := blk_frozen BK168.out 0
                      refine skip_ (w1 := ?_) (by rfl) rfl ?_ ?_
                      rotate_left
                      · go_simp
                        rfl
                      refine hK.out _ _ trivial (fun hHeld => ?_)
                      clear hK K
                      exact norm_ (by first | (simp only [putAll, Act.put, List.setIfInBounds_toArray, List.set_cons_zero, List.set_cons_succ]; done) | (simp only [putAll, Act.put, List.setIfInBounds_toArray, List.set_cons_zero, List.set_cons_succ]; rfl)) (hJ1_2_4_7 (v170, v173) _ ⟨(by (with_reducible repeat (first | apply Kd.R_alloc | apply Kd.R_drewN | apply Kd.R_drew)); exact Kd.R_mono (Kd.R_far (p := ⟨gb168, 0, none⟩) (Kd.R_types HO171.out BK168.out (by decide)) (fun _ hk => hk.2) (.string (strOfNums y169))) (fun _ hk => hk.1)), (by (with_reducible repeat (first | apply Kd.R_alloc | apply Kd.R_drewN | apply Kd.R_drew)); exact Kd.R_mono (Kd.R_far (p := ⟨gb168, 0, none⟩) (Kd.R_types HO174.out BK168.out (by decide)) (fun _ hk => hk.2) (.string (strOfNums y169))) (fun _ hk => hk.1)), (by (with_reducible repeat (first | refine blk_drewN ?_ _ | refine blk_drew ?_ | refine blk_alloc ?_ _)); refine blk_put (cs := #[.string t160, .int .i64 t161, .int .i64 t162, .int .i64 t163, .int .i64 t164, .int .i64 t165, .int .i64 t166, .string t167]) ?_ 0 _ rfl; (with_reducible repeat (first | refine blk_drewN ?_ _ | refine blk_drew ?_ | refine blk_alloc ?_ _)); exact BK168.out), (by repeat (first | (with_reducible first | exact HB.out | apply below_alloc | apply pw_below_drewN | apply below_drew1 | refine below_set ?_ GE168.out) | exact HB.out))⟩)
                · skip
                  rintro ⟨v170, v173⟩ w27 ⟨h0_, h1_, h2_, h3_⟩
                  have n0_ : Aside0 (Kd.R (Kd.int .u8) 5 w27 w.heap.size (fun k_ => some k_ ≠ (v173 : Value).ownBlock) v170 y169) := ⟨h0_⟩
                  have n1_ : Aside0 (Kd.R (Kd.int .u8) 5 w27 w.heap.size (fun k_ => some k_ ≠ (v170 : Value).ownBlock) v173 y172) := ⟨h1_⟩
                  have n2_ : Aside0 (w27.heap[gb168]? = some (.cells #[.string (strOfNums y169), .int .i64 t161, .int .i64 t162, .int .i64 t163, .int .i64 t164, .int .i64 t165, .int .i64 t166, .string t167] 23 (0, 0))) := ⟨h2_⟩
                  have n3_ : Aside0 (Below w.heap.size w w27) := ⟨h3_⟩
                  clear BK168
                  clear HB
                  clear h0_ h1_ h2_ h3_
                  have HO171 := n0_
                  have HO174 := n1_
                  have BK168 := n2_
                  have HB := n3_
                  clear n0_ n1_ n2_ n3_
                  have hHeld := trivial
                  refine norm_ (a' := ?_) ?_ ?_
                  rotate_left
                  · simp only [putAll, Act.put, List.setIfInBounds_toArray, List.set_cons_zero, List.set_cons_succ]
                    rfl
                  refine one_ (i := 5) (N := some 26) #[true, true, true, true, true, true, true, true, false, false] rfl rfl (one_of HT_.out (by kernel_rfl)) (by decide) (fun K hK => ?_)
                  have hcv28 := own_string (P := Try.prog) Try.underlying37 Try.underlying5 Try.underlying9 (Kd.own_of_R HO174.out)
                  refine value_ (w1 := ?_) (v := ?_) (by rfl) rfl ?_ ?_
                  rotate_left 2
                  · go_simp
                    constructor
                    · rfl
                    · rfl
                  clear hcv28
                  refine hK.out _ _ trivial (fun hHeld => ?_)
                  clear hK K
                  refine norm_ (a' := ?_) ?_ ?_
                  rotate_left
                  · show Act.put _ (some 26) _ = _
                    simp only [Act.put, List.setIfInBounds_toArray, List.set_cons_zero, List.set_cons_succ, i64_w, i32_w]
                    rfl
                  exact norm_ (by first | (simp only [putAll, Act.put, List.setIfInBounds_toArray, List.set_cons_zero, List.set_cons_succ]; done) | (simp only [putAll, Act.put, List.setIfInBounds_toArray, List.set_cons_zero, List.set_cons_succ]; rfl)) (hJ1_2_4_5_7 (v170, v173) _ ⟨(by (with_reducible repeat (first | apply Kd.R_alloc | apply Kd.R_drewN | apply Kd.R_drew)); exact HO171.out), (by (with_reducible repeat (first | apply Kd.R_alloc | apply Kd.R_drewN | apply Kd.R_drew)); exact HO174.out), (by (with_reducible repeat (first | refine blk_drewN ?_ _ | refine blk_drew ?_ | refine blk_alloc ?_ _)); exact BK168.out), (by repeat (first | (with_reducible first | exact HB.out | apply below_alloc | apply pw_below_drewN | apply below_drew1 | refine below_set ?_ GE168.out) | exact HB.out))⟩)
              · skip
                rintro ⟨v170, v173⟩ w27 ⟨h0_, h1_, h2_, h3_⟩
                have n0_ : Aside0 (Kd.R (Kd.int .u8) 5 w27 w.heap.size (fun k_ => some k_ ≠ (v173 : Value).ownBlock) v170 y169) := ⟨h0_⟩
                have n1_ : Aside0 (Kd.R (Kd.int .u8) 5 w27 w.heap.size (fun k_ => some k_ ≠ (v170 : Value).ownBlock) v173 y172) := ⟨h1_⟩
                have n2_ : Aside0 (w27.heap[gb168]? = some (.cells #[.string t160, .int .i64 t161, .int .i64 t162, .int .i64 t163, .int .i64 t164, .int .i64 t165, .int .i64 t166, .string t167] 23 (0, 0))) := ⟨h2_⟩
                have n3_ : Aside0 (Below w.heap.size w w27) := ⟨h3_⟩
                clear BK168
                clear HB
                clear h0_ h1_ h2_ h3_
                have HO171 := n0_
                have HO174 := n1_
                have BK168 := n2_
                have HB := n3_
                clear n0_ n1_ n2_ n3_
                have hHeld := trivial
                refine norm_ (a' := ?_) ?_ ?_
                rotate_left
                · simp only [putAll, Act.put, List.setIfInBounds_toArray, List.set_cons_zero, List.set_cons_succ]
                  rfl
                refine one_ (i := 7) (N := none) #[true, true, true, true, true, true, true, true, false, false] rfl rfl (one_of HT_.out (by kernel_rfl)) (by decide) (fun K hK => ?_)
                have hs28 : w27.cell? ⟨gb168, 0, none⟩ = some (.string t160) := (blk_cell BK168.out 0).trans rfl
                have hfs28 := blk_frozen BK168.out 0
                refine skip_ (w1 := ?_) (by rfl) rfl ?_ ?_
                rotate_left
                · go_simp
                  rfl
                refine hK.out _ _ trivial (fun hHeld => ?_)
                clear hK K
                exact norm_ (by first | (simp only [putAll, Act.put, List.setIfInBounds_toArray, List.set_cons_zero, List.set_cons_succ]; done) | (simp only [putAll, Act.put, List.setIfInBounds_toArray, List.set_cons_zero, List.set_cons_succ]; rfl)) (hJ1_2_4_5_7 (v170, v173) _ ⟨(by (with_reducible repeat (first | apply Kd.R_alloc | apply Kd.R_drewN | apply Kd.R_drew)); exact Kd.R_mono (Kd.R_far (p := ⟨gb168, 0, none⟩) (Kd.R_types HO171.out BK168.out (by decide)) (fun _ hk => hk.2) (.string (strOfNums y169))) (fun _ hk => hk.1)), (by (with_reducible repeat (first | apply Kd.R_alloc | apply Kd.R_drewN | apply Kd.R_drew)); exact Kd.R_mono (Kd.R_far (p := ⟨gb168, 0, none⟩) (Kd.R_types HO174.out BK168.out (by decide)) (fun _ hk => hk.2) (.string (strOfNums y169))) (fun _ hk => hk.1)), (by (with_reducible repeat (first | refine blk_drewN ?_ _ | refine blk_drew ?_ | refine blk_alloc ?_ _)); refine blk_put (cs := #[.string t160, .int .i64 t161, .int .i64 t162, .int .i64 t163, .int .i64 t164, .int .i64 t165, .int .i64 t166, .string t167]) ?_ 0 _ rfl; (with_reducible repeat (first | refine blk_drewN ?_ _ | refine blk_drew ?_ | refine blk_alloc ?_ _)); exact BK168.out), (by repeat (first | (with_reducible first | exact HB.out | apply below_alloc | apply pw_below_drewN | apply below_drew1 | refine below_set ?_ GE168.out) | exact HB.out))⟩)
            rintro ⟨v170, v173⟩ w28 ⟨h0_, h1_, h2_, h3_⟩
            have n0_ : Aside0 (Kd.R (Kd.int .u8) 5 w28 w.heap.size (fun k_ => some k_ ≠ (v173 : Value).ownBlock) v170 y169) := ⟨h0_⟩
            have n1_ : Aside0 (Kd.R (Kd.int .u8) 5 w28 w.heap.size (fun k_ => some k_ ≠ (v170 : Value).ownBlock) v173 y172) := ⟨h1_⟩
            have n2_ : Aside0 (w28.heap[gb168]? = some (.cells #[.string (strOfNums y169), .int .i64 t161, .int .i64 t162, .int .i64 t163, .int .i64 t164, .int .i64 t165, .int .i64 t166, .string t167] 23 (0, 0))) := ⟨h2_⟩
            have n3_ : Aside0 (Below w.heap.size w w28) := ⟨h3_⟩
            clear BK168
            clear HB
            clear h0_ h1_ h2_ h3_
            have HO171 := n0_
            have HO174 := n1_
            have BK168 := n2_
            have HB := n3_
            clear n0_ n1_ n2_ n3_
            have hHeld := trivial
            refine norm_ (a' := ?_) ?_ ?_
            rotate_left
            · simp only [putAll, Act.put, List.setIfInBounds_toArray, List.set_cons_zero, List.set_cons_succ]
              rfl
            refine pure_ (i := 8) (N := some 28) (v := ?_) (a' := ?_) #[true, true, true, true, true, true, true, true, true, false] rfl rfl (any_of HT_.out (by kernel_rfl)) (fun _ _ _ h => h) (Or.inl ⟨by rfl, ?_⟩) ?_ ?_
            rotate_left
            · intro w'
              go_simp
              with_reducible rfl
            rotate_left
            · simp only [Act.put, List.setIfInBounds_toArray, List.set_cons_zero, List.set_cons_succ, i64_w, i32_w]
              rfl
            refine one_ (i := 9) (N := none) #[true, true, true, true, true, true, true, true, true, true] rfl rfl (one_of HT_.out (by kernel_rfl)) (by decide) (fun K hK => ?_)
            have hs29 : w28.cell? ⟨gb168, 7, none⟩ = some (.string t167) := (blk_cell BK168.out 7).trans rfl
            have hfs29 := blk_frozen BK168.out 7
            refine skip_ (w1 := ?_) (by rfl) rfl ?_ ?_
            rotate_left
            · go_simp
              rfl
            refine hK.out _ _ trivial (fun hHeld => ?_)
            clear hK K
            refine done_ (done_of HT_.out (by kernel_rfl)) ?_
            have hcz30_0 : w28.cell? ⟨gb168, 0, none⟩ = some (.string (strOfNums y169)) := (blk_cell BK168.out 0).trans rfl
            have hcz30_1 : w28.cell? ⟨gb168, 1, none⟩ = some (.int .i64 t161) := (blk_cell BK168.out 1).trans rfl
            have hcz30_2 : w28.cell? ⟨gb168, 2, none⟩ = some (.int .i64 t162) := (blk_cell BK168.out 2).trans rfl
            have hcz30_3 : w28.cell? ⟨gb168, 3, none⟩ = some (.int .i64 t163) := (blk_cell BK168.out 3).trans rfl
            have hcz30_4 : w28.cell? ⟨gb168, 4, none⟩ = some (.int .i64 t164) := (blk_cell BK168.out 4).trans rfl
            have hcz30_5 : w28.cell? ⟨gb168, 5, none⟩ = some (.int .i64 t165) := (blk_cell BK168.out 5).trans rfl
            have hcz30_6 : w28.cell? ⟨gb168, 6, none⟩ = some (.int .i64 t166) := (blk_cell BK168.out 6).trans rfl
            have hcz30_7 : w28.cell? ⟨gb168, 7, none⟩ = some (.string t167) := (blk_cell BK168.out 7).trans rfl
            have hfz30_0 := blk_frozen BK168.out 0
            have hfz30_1 := blk_frozen BK168.out 1
            have hfz30_2 := blk_frozen BK168.out 2
            have hfz30_3 := blk_frozen BK168.out 3
            have hfz30_4 := blk_frozen BK168.out 4
            have hfz30_5 := blk_frozen BK168.out 5
            have hfz30_6 := blk_frozen BK168.out 6
            have hfz30_7 := blk_frozen BK168.out 7
            go_upto_region 8 with (first | ((with_reducible refine gate_callee (f := 19) rfl ?_); refine goesL_ (some 31) rfl rfl Try.func19 (by kernel_rfl) rfl #[.agg #[.string (strOfNums y169), .int .i64 t161, .int .i64 t162, .int .i64 t163, .int .i64 t164, .int .i64 t165, .int .i64 t166, .string (strOfNums y172)]] rfl (by (try simp only [List.map_toArray, List.map_cons, List.map_nil]); first | done | rfl | (simp only [List.length_drop, List.length_take]; rfl)) ?_; (with_reducible refine (dirrecord_Encode.calls k (strOfNums y169) t161 t162 t163 t164 t165 t166 (strOfNums y172) t175 t176 _ A13.out).mono ?_); rintro e w31 ⟨rfl, hb⟩; refine ⟨_, rfl, ?_⟩; have n0_ := Aside0.mk (Kd.R_below (by (with_reducible repeat (first | apply Kd.R_alloc | apply Kd.R_drewN | apply Kd.R_drew)); exact (Kd.R_mono (Kd.R_far (p := ⟨gb168, 7, none⟩) (Kd.R_types HO171.out BK168.out (by decide)) (fun _ hk => hk.2) (.string (strOfNums y172))) (fun _ h_ => h_.1))) hb); have n1_ := Aside0.mk (Kd.R_below (by (with_reducible repeat (first | apply Kd.R_alloc | apply Kd.R_drewN | apply Kd.R_drew)); exact (Kd.R_mono (Kd.R_far (p := ⟨gb168, 7, none⟩) (Kd.R_types HO174.out BK168.out (by decide)) (fun _ hk => hk.2) (.string (strOfNums y172))) (fun _ h_ => h_.1))) hb); have n2_ := Aside0.mk (blk_below (g := gb168) (o := .cells #[.string (strOfNums y169), .int .i64 t161, .int .i64 t162, .int .i64 t163, .int .i64 t164, .int .i64 t165, .int .i64 t166, .string (strOfNums y172)] 23 (0, 0)) (by (with_reducible repeat (first | refine blk_drewN ?_ _ | refine blk_drew ?_ | refine blk_alloc ?_ _)); refine blk_put (cs := #[.string (strOfNums y169), .int .i64 t161, .int .i64 t162, .int .i64 t163, .int .i64 t164, .int .i64 t165, .int .i64 t166, .string t167]) ?_ 7 _ rfl; (with_reducible repeat (first | refine blk_drewN ?_ _ | refine blk_drew ?_ | refine blk_alloc ?_ _)); exact BK168.out) hb); have n3_ := Aside0.mk (below_step (by repeat (first | (with_reducible first | exact HB.out | apply below_alloc | apply pw_below_drewN | apply below_drew1 | refine below_set ?_ GE168.out) | exact HB.out)) hb); clear HO171; clear HO174; clear BK168; clear HB; have HO171 := n0_; have HO174 := n1_; have BK168 := n2_; have HB := n3_; clear n0_ n1_ n2_ n3_; (try clear hb); (try clear hb2); (try clear hk); (try clear hi)))
            (try simp only [Act.put, List.setIfInBounds_toArray, List.set_cons_zero, List.set_cons_succ])
            go_cut [61] (fun v61 wc => ∃ (kq : Nat) (x61_13 : Bool), v61 = .bool x61_13 ∧ Aside0 (masterdisclaw20_DirrecordSizes.j0 kq ji7 ji10 t159 x61_13 = some r) ∧ Aside0 (kq ≤ k) ∧ Aside0 (wc.heap[gb168]? = some (.cells #[.string (strOfNums y169), .int .i64 t161, .int .i64 t162, .int .i64 t163, .int .i64 t164, .int .i64 t165, .int .i64 t166, .string (strOfNums y172)] 23 (0, 0))) ∧ Aside0 (Below w.heap.size w wc))
            case first =>
              have H := HC14.out
              clear HC14
              by_cases c32 : ((t176 == 0) != (decide (t159 > 0))) = true
              · rw [if_pos c32] at H
                have c32b0 : ((t176 == 0) != (decide (t159 > 0))) = true := c32
                (try (have c32b1 : decide ((t176 == 0) = (decide (t159 > 0))) = false := by simpa using c32))
                (try (have c32b2 : ((t176 == 0) == (decide (t159 > 0))) = false := by simpa using c32))
                (try (have c32b3 : ¬ ((t176 == 0) = (decide (t159 > 0))) := by simpa using c32))
                clear c32
                (first | rw [c32b0] | (simp only [i64_w, i32_w]; rw [c32b0]) | skip)
                have H' := Aside0.mk H
                clear H
                go_wp2
                go_meet
                case rel => exact ⟨_, (true), (by first | rfl | (simp; done) | (simp [*]; done)), H', ⟨by first | omega | exact Nat.le_refl _⟩, ⟨by (with_reducible repeat (first | refine blk_drewN ?_ _ | refine blk_drew ?_ | refine blk_alloc ?_ _)); exact BK168.out⟩, ⟨by repeat (first | (with_reducible first | exact HB.out | apply below_alloc | apply pw_below_drewN | apply below_drew1 | refine below_set ?_ GE168.out) | exact HB.out)⟩⟩
              · rw [if_neg c32] at H
                have c32b0 : ((t176 == 0) != (decide (t159 > 0))) = false := by simpa using c32
                (try (have c32b1 : decide ((t176 == 0) = (decide (t159 > 0))) = true := by simpa using c32))
                (try (have c32b2 : ((t176 == 0) == (decide (t159 > 0))) = true := by simpa using c32))
                clear c32
                (first | rw [c32b0] | (simp only [i64_w, i32_w]; rw [c32b0]) | skip)
                by_cases c33 : (t175.size : Int) = t159
                · rw [if_pos c33] at H
                  have c33b0 : ((t175.size : Int) == t159) = true := beq_iff_eq.mpr c33
                  have c33b1 : ((t175.size : Int) != t159) = false := bne_eq_false_iff_eq.mpr c33
                  clear c33
                  by_cases c34 : (Int.tmod t159 2) = 0
                  · rw [if_pos c34] at H
                    have c34b0 : ((Int.tmod t159 2) == 0) = true := beq_iff_eq.mpr c34
                    have c34b1 : ((Int.tmod t159 2) != 0) = false := bne_eq_false_iff_eq.mpr c34
                    clear c34
                    by_cases c35 : t159 > 254
                    · rw [if_pos c35] at H
                      have c35b0 : decide (254 < t159) = true := decide_eq_true c35
                      clear c35
                      have H' := Aside0.mk H
                      clear H
                      go_wp2
                      go_meet
                      case rel => exact ⟨_, (true), (by first | rfl | (simp; done) | (simp [*]; done)), H', ⟨by first | omega | exact Nat.le_refl _⟩, ⟨by (with_reducible repeat (first | refine blk_drewN ?_ _ | refine blk_drew ?_ | refine blk_alloc ?_ _)); exact BK168.out⟩, ⟨by repeat (first | (with_reducible first | exact HB.out | apply below_alloc | apply pw_below_drewN | apply below_drew1 | refine below_set ?_ GE168.out) | exact HB.out)⟩⟩
                    · rw [if_neg c35] at H
                      have c35b0 : decide (254 < t159) = false := decide_eq_false c35
                      clear c35
                      by_cases c36 : t159 > 0
                      · rw [if_pos c36] at H
                        have c36b0 : decide (0 < t159) = true := decide_eq_true c36
                        clear c36
                        have hq36 : (t176 == 0) = true := by
                          cases hq : (t176 == 0) with
                          | true => rfl
                          | false => exact absurd c32b0 (by rw [hq, show decide (t159 > 0) = true from c36b0]; decide)
                        have H' := Aside0.mk H
                        clear H
                        go_wp2
                        go_meet
                        case rel => exact ⟨_, (decide (t159 < 34)), (by first | rfl | (simp; done) | (simp [*]; done)), H', ⟨by first | omega | exact Nat.le_refl _⟩, ⟨by (with_reducible repeat (first | refine blk_drewN ?_ _ | refine blk_drew ?_ | refine blk_alloc ?_ _)); exact BK168.out⟩, ⟨by repeat (first | (with_reducible first | exact HB.out | apply below_alloc | apply pw_below_drewN | apply below_drew1 | refine below_set ?_ GE168.out) | exact HB.out)⟩⟩
                      · rw [if_neg c36] at H
                        have c36b0 : decide (0 < t159) = false := decide_eq_false c36
                        clear c36
                        have hq36 : (t176 == 0) = false := by
                          cases hq : (t176 == 0) with
                          | false => rfl
                          | true => exact absurd c32b0 (by rw [hq, show decide (t159 > 0) = false from c36b0]; decide)
                        have H' := Aside0.mk H
                        clear H
                        go_wp2
                        go_meet
                        case rel => exact ⟨_, (false), (by first | rfl | (simp; done) | (simp [*]; done)), H', ⟨by first | omega | exact Nat.le_refl _⟩, ⟨by (with_reducible repeat (first | refine blk_drewN ?_ _ | refine blk_drew ?_ | refine blk_alloc ?_ _)); exact BK168.out⟩, ⟨by repeat (first | (with_reducible first | exact HB.out | apply below_alloc | apply pw_below_drewN | apply below_drew1 | refine below_set ?_ GE168.out) | exact HB.out)⟩⟩
                  · rw [if_neg c34] at H
                    have c34b0 : ((Int.tmod t159 2) == 0) = false := beq_eq_false_iff_ne.mpr c34
                    have c34b1 : ((Int.tmod t159 2) != 0) = true := bne_iff_ne.mpr c34
                    have H' := Aside0.mk H
                    clear H
                    go_wp2
                    go_meet
                    case rel => exact ⟨_, (true), (by first | rfl | (simp; done) | (simp [*]; done)), H', ⟨by first | omega | exact Nat.le_refl _⟩, ⟨by (with_reducible repeat (first | refine blk_drewN ?_ _ | refine blk_drew ?_ | refine blk_alloc ?_ _)); exact BK168.out⟩, ⟨by repeat (first | (with_reducible first | exact HB.out | apply below_alloc | apply pw_below_drewN | apply below_drew1 | refine below_set ?_ GE168.out) | exact HB.out)⟩⟩
                · rw [if_neg c33] at H
                  have c33b0 : ((t175.size : Int) == t159) = false := beq_eq_false_iff_ne.mpr c33
                  have c33b1 : ((t175.size : Int) != t159) = true := bne_iff_ne.mpr c33
                  have H' := Aside0.mk H
                  clear H
                  go_wp2
                  go_meet
                  case rel => exact ⟨_, (true), (by first | rfl | (simp; done) | (simp [*]; done)), H', ⟨by first | omega | exact Nat.le_refl _⟩, ⟨by (with_reducible repeat (first | refine blk_drewN ?_ _ | refine blk_drew ?_ | refine blk_alloc ?_ _)); exact BK168.out⟩, ⟨by repeat (first | (with_reducible first | exact HB.out | apply below_alloc | apply pw_below_drewN | apply below_drew1 | refine below_set ?_ GE168.out) | exact HB.out)⟩⟩
            case rest =>
              clear HC14
              try clear c1
              try clear p2
              try clear hcv2
              try clear c3
              try clear c19
              try clear hcv24
              try clear hcv26
              try clear hcv27
              try clear hcv28
              try clear c32
              try clear c32b0
              try clear c32b1
              try clear c32b2
              try clear c33
              try clear c33b0
              try clear c33b1
              try clear c34
              try clear c34b0
              try clear c34b1
              try clear c35
              try clear c35b0
              try clear c36
              try clear c36b0
              try clear hcz30_0
              try clear hcz30_1
              try clear hcz30_2
              try clear hcz30_3
              try clear hcz30_4
              try clear hcz30_5
              try clear hcz30_6
              try clear hcz30_7
              try clear hfz30_0
              try clear hfz30_1
              try clear hfz30_2
              try clear hfz30_3
              try clear hfz30_4
              try clear hfz30_5
              try clear hfz30_6
              try clear hfz30_7
              obtain ⟨kq, x61_13, rfl, HA, HJ13, BK168, HB⟩ := hcut
              cases kq with
              | zero => exact absurd HA.out (by simp [masterdisclaw20_DirrecordSizes.j0])
              | succ kj13 =>
                have H := HA.out
                clear HA
                simp only [masterdisclaw20_DirrecordSizes.j0] at H
                by_cases c37 : x61_13 = true
                · subst c37
                  have H1 : (some false) = some r := by rw [if_pos rfl] at H; exact H
                  clear H
                  have H := H1
                  clear H1
                  obtain rfl := Option.some.inj H
                  go_wp2
                  go_ret
                  exact ⟨by first | rfl | (simp [errW_none, errW_some] <;> rfl) | (simp only [← hji7, ← hji10]; first | rfl | (simp [errW_none, errW_some] <;> rfl)) | (simp [*, errW_none, errW_some] <;> rfl), by repeat (first | (with_reducible first | exact HB.out | apply below_alloc | apply pw_below_drewN | apply below_drew1 | refine below_set ?_ GE168.out) | exact HB.out)⟩
                · replace c37 := Bool.eq_false_iff.mpr c37
                  subst c37
                  have H1 : (if t159 = 0 then (masterdisclaw20_DirrecordSizes.j1 kj13 ji7 ji10 t159 true) else (masterdisclaw20_DirrecordSizes.j1 kj13 ji7 ji10 t159 (decide (t159 > 252)))) = some r := by rw [if_neg (show ¬ (false = true) by decide)] at H; exact H
                  clear H
                  have H := H1
                  clear H1
                  have HC38 := Aside0.mk H
                  clear H
                  go_upto_region 10 with (fail)
                  go_cut [67] (fun v67 wc => ∃ (kq : Nat) (x67_37 : Bool), v67 = .bool x67_37 ∧ Aside0 (masterdisclaw20_DirrecordSizes.j1 kq ji7 ji10 t159 x67_37 = some r) ∧ Aside0 (kq ≤ kj13) ∧ Aside0 (wc.heap[gb168]? = some (.cells #[.string (strOfNums y169), .int .i64 t161, .int .i64 t162, .int .i64 t163, .int .i64 t164, .int .i64 t165, .int .i64 t166, .string (strOfNums y172)] 23 (0, 0))) ∧ Aside0 (Below w.heap.size w wc))
                  case first =>
                    have H := HC38.out
                    clear HC38
                    by_cases c39 : t159 = 0
                    · rw [if_pos c39] at H
                      have c39b0 : (t159 == 0) = true := beq_iff_eq.mpr c39
                      have c39b1 : (t159 != 0) = false := bne_eq_false_iff_eq.mpr c39
                      clear c39
                      (first | rw [c39b0] | (simp only [i64_w, i32_w]; rw [c39b0]) | skip)
                      have H' := Aside0.mk H
                      clear H
                      go_wp2
                      go_meet
                      case rel => exact ⟨_, (true), (by first | rfl | (simp; done) | (simp [*]; done)), H', ⟨by have := HJ13.out; first | omega | exact Nat.le_refl _⟩, ⟨by (with_reducible repeat (first | refine blk_drewN ?_ _ | refine blk_drew ?_ | refine blk_alloc ?_ _)); exact BK168.out⟩, ⟨by repeat (first | (with_reducible first | exact HB.out | apply below_alloc | apply pw_below_drewN | apply below_drew1 | refine below_set ?_ GE168.out) | exact HB.out)⟩⟩
                    · rw [if_neg c39] at H
                      have c39b0 : (t159 == 0) = false := beq_eq_false_iff_ne.mpr c39
                      have c39b1 : (t159 != 0) = true := bne_iff_ne.mpr c39
                      (first | rw [c39b0] | (simp only [i64_w, i32_w]; rw [c39b0]) | skip)
                      have H' := Aside0.mk H
                      clear H
                      go_wp2
                      go_meet
                      case rel => exact ⟨_, (decide (t159 > 252)), (by first | rfl | (simp; done) | (simp [*]; done)), H', ⟨by have := HJ13.out; first | omega | exact Nat.le_refl _⟩, ⟨by (with_reducible repeat (first | refine blk_drewN ?_ _ | refine blk_drew ?_ | refine blk_alloc ?_ _)); exact BK168.out⟩, ⟨by repeat (first | (with_reducible first | exact HB.out | apply below_alloc | apply pw_below_drewN | apply below_drew1 | refine below_set ?_ GE168.out) | exact HB.out)⟩⟩
                  case rest =>
                    clear HC38
                    try clear c1
                    try clear p2
                    try clear hcv2
                    try clear c3
                    try clear c19
                    try clear hcv24
                    try clear hcv26
                    try clear hcv27
                    try clear hcv28
                    try clear c32
                    try clear c32b0
                    try clear c32b1
                    try clear c32b2
                    try clear c33
                    try clear c33b0
                    try clear c33b1
                    try clear c34
                    try clear c34b0
                    try clear c34b1
                    try clear c35
                    try clear c35b0
                    try clear c36
                    try clear c36b0
                    try clear c37
                    try clear c39
                    try clear c39b0
                    try clear c39b1
                    try clear hcz30_0
                    try clear hcz30_1
                    try clear hcz30_2
                    try clear hcz30_3
                    try clear hcz30_4
                    try clear hcz30_5
                    try clear hcz30_6
                    try clear hcz30_7
                    try clear hfz30_0
                    try clear hfz30_1
                    try clear hfz30_2
                    try clear hfz30_3
                    try clear hfz30_4
                    try clear hfz30_5
                    try clear hfz30_6
                    try clear hfz30_7
                    try clear p2
                    obtain ⟨kq, x67_37, rfl, HA, HJ37, BK168, HB⟩ := hcut
                    cases kq with
                    | zero => exact absurd HA.out (by simp [masterdisclaw20_DirrecordSizes.j1])
                    | succ kj37 =>
                      have H := HA.out
                      clear HA
                      simp only [masterdisclaw20_DirrecordSizes.j1] at H
                      by_cases c40 : x67_37 = true
                      · subst c40
                        have H1 : (some true) = some r := by rw [if_pos rfl] at H; exact H
                        clear H
                        have H := H1
                        clear H1
                        obtain rfl := Option.some.inj H
                        go_wp2
                        go_ret
                        exact ⟨by first | rfl | (simp [errW_none, errW_some] <;> rfl) | (simp only [← hji7, ← hji10]; first | rfl | (simp [errW_none, errW_some] <;> rfl)) | (simp [*, errW_none, errW_some] <;> rfl), by repeat (first | (with_reducible first | exact HB.out | apply below_alloc | apply pw_below_drewN | apply below_drew1 | refine below_set ?_ GE168.out) | exact HB.out)⟩
                      · replace c40 := Bool.eq_false_iff.mpr c40
                        subst c40
                        have H1 : ((dirrecord_Size.f kj37 ji7 (wrap64 (ji10 + 2))).bind fun t177 => (if t177 = (wrap64 (t159 + 2)) then ((dirrecord_Size.f kj37 (wrap64 (ji7 + 2)) ji10).bind fun t178 => (if t178 = (wrap64 (t159 + 2)) then (if (Int.tmod ji7 2) = 1 then (some true) else ((dirrecord_Size.f kj37 (wrap64 (ji7 + 1)) ji10).bind fun t179 => (some (t179 == t159)))) else (some false))) else (some false))) = some r := by rw [if_neg (show ¬ (false = true) by decide)] at H; exact H
                        clear H
                        have H := H1
                        clear H1
                        replace H := Option.bind_eq_some_iff.mp H
                        obtain ⟨t177, A410, H⟩ := H
                        replace H : (if t177 = (wrap64 (t159 + 2)) then ((dirrecord_Size.f kj37 (wrap64 (ji7 + 2)) ji10).bind fun t178 => (if t178 = (wrap64 (t159 + 2)) then (if (Int.tmod ji7 2) = 1 then (some true) else ((dirrecord_Size.f kj37 (wrap64 (ji7 + 1)) ji10).bind fun t179 => (some (t179 == t159)))) else (some false))) else (some false)) = some r := H
                        have A41 := Aside0.mk A410
                        clear A410
                        by_cases c42 : t177 = (wrap64 (t159 + 2))
                        · rw [if_pos c42] at H
                          have c42b0 : (t177 == (wrap64 (t159 + 2))) = true := beq_iff_eq.mpr c42
                          have c42b1 : (t177 != (wrap64 (t159 + 2))) = false := bne_eq_false_iff_eq.mpr c42
                          clear c42
                          replace H := Option.bind_eq_some_iff.mp H
                          obtain ⟨t178, A430, H⟩ := H
                          replace H : (if t178 = (wrap64 (t159 + 2)) then (if (Int.tmod ji7 2) = 1 then (some true) else ((dirrecord_Size.f kj37 (wrap64 (ji7 + 1)) ji10).bind fun t179 => (some (t179 == t159)))) else (some false)) = some r := H
                          have A43 := Aside0.mk A430
                          clear A430
                          by_cases c44 : t178 = (wrap64 (t159 + 2))
                          · rw [if_pos c44] at H
                            have c44b0 : (t178 == (wrap64 (t159 + 2))) = true := beq_iff_eq.mpr c44
                            have c44b1 : (t178 != (wrap64 (t159 + 2))) = false := bne_eq_false_iff_eq.mpr c44
                            clear c44
                            by_cases c45 : (Int.tmod ji7 2) = 1
                            · rw [if_pos c45] at H
                              have c45b0 : ((Int.tmod ji7 2) == 1) = true := beq_iff_eq.mpr c45
                              have c45b1 : ((Int.tmod ji7 2) != 1) = false := bne_eq_false_iff_eq.mpr c45
                              clear c45
                              obtain rfl := Option.some.inj H
                              go_wp2_with (first | ((with_reducible refine gate_callee (f := 21) rfl ?_); refine goesL_ (some 71) rfl rfl Try.func21 (by kernel_rfl) rfl #[.int .i64 ji7, .int .i64 (wrap64 (ji10 + 2))] rfl (by (try simp only [List.map_toArray, List.map_cons, List.map_nil]); first | done | (simp only [hji10, hji7]; rfl) | rfl | (simp only [List.length_drop, List.length_take]; rfl)) ?_; (with_reducible refine (dirrecord_Size.calls kj37 ji7 (wrap64 (ji10 + 2)) t177 _ A41.out).mono ?_); rintro e w' ⟨rfl, ⟨nd, rfl⟩⟩; refine ⟨_, rfl, ?_⟩) | (go_at_call 21; (with_reducible refine (dirrecord_Size.calls kj37 (wrap64 (ji7 + 2)) ji10 t178 _ A43.out).mono ?_); rintro e w' ⟨rfl, ⟨nd, rfl⟩⟩))
                              go_ret
                              exact ⟨by first | rfl | (simp [errW_none, errW_some] <;> rfl) | (simp only [← hji7, ← hji10]; first | rfl | (simp [errW_none, errW_some] <;> rfl)) | (simp [*, errW_none, errW_some] <;> rfl), by repeat (first | (with_reducible first | exact HB.out | apply below_alloc | apply pw_below_drewN | apply below_drew1 | refine below_set ?_ GE168.out) | exact HB.out)⟩
                            · rw [if_neg c45] at H
                              have c45b0 : ((Int.tmod ji7 2) == 1) = false := beq_eq_false_iff_ne.mpr c45
                              have c45b1 : ((Int.tmod ji7 2) != 1) = true := bne_iff_ne.mpr c45
                              replace H := Option.bind_eq_some_iff.mp H
                              obtain ⟨t179, A460, H⟩ := H
                              replace H : (some (t179 == t159)) = some r := H
                              have A46 := Aside0.mk A460
                              clear A460
                              obtain rfl := Option.some.inj H
                              go_wp2_with (first | ((with_reducible refine gate_callee (f := 21) rfl ?_); refine goesL_ (some 71) rfl rfl Try.func21 (by kernel_rfl) rfl #[.int .i64 ji7, .int .i64 (wrap64 (ji10 + 2))] rfl (by (try simp only [List.map_toArray, List.map_cons, List.map_nil]); first | done | (simp only [hji10, hji7]; rfl) | rfl | (simp only [List.length_drop, List.length_take]; rfl)) ?_; (with_reducible refine (dirrecord_Size.calls kj37 ji7 (wrap64 (ji10 + 2)) t177 _ A41.out).mono ?_); rintro e w' ⟨rfl, ⟨nd, rfl⟩⟩; refine ⟨_, rfl, ?_⟩) | (go_at_call 21; (with_reducible refine (dirrecord_Size.calls kj37 (wrap64 (ji7 + 2)) ji10 t178 _ A43.out).mono ?_); rintro e w' ⟨rfl, ⟨nd, rfl⟩⟩) | (go_at_call 21; (with_reducible refine (dirrecord_Size.calls kj37 (wrap64 (ji7 + 1)) ji10 t179 _ A46.out).mono ?_); rintro e w' ⟨rfl, ⟨nd, rfl⟩⟩))
                              go_ret
                              exact ⟨by first | rfl | (simp [errW_none, errW_some] <;> rfl) | (simp only [← hji7, ← hji10]; first | rfl | (simp [errW_none, errW_some] <;> rfl)) | (simp [*, errW_none, errW_some] <;> rfl), by repeat (first | (with_reducible first | exact HB.out | apply below_alloc | apply pw_below_drewN | apply below_drew1 | refine below_set ?_ GE168.out) | exact HB.out)⟩
                          · rw [if_neg c44] at H
                            have c44b0 : (t178 == (wrap64 (t159 + 2))) = false := beq_eq_false_iff_ne.mpr c44
                            have c44b1 : (t178 != (wrap64 (t159 + 2))) = true := bne_iff_ne.mpr c44
                            obtain rfl := Option.some.inj H
                            go_wp2_with (first | ((with_reducible refine gate_callee (f := 21) rfl ?_); refine goesL_ (some 71) rfl rfl Try.func21 (by kernel_rfl) rfl #[.int .i64 ji7, .int .i64 (wrap64 (ji10 + 2))] rfl (by (try simp only [List.map_toArray, List.map_cons, List.map_nil]); first | done | (simp only [hji10, hji7]; rfl) | rfl | (simp only [List.length_drop, List.length_take]; rfl)) ?_; (with_reducible refine (dirrecord_Size.calls kj37 ji7 (wrap64 (ji10 + 2)) t177 _ A41.out).mono ?_); rintro e w' ⟨rfl, ⟨nd, rfl⟩⟩; refine ⟨_, rfl, ?_⟩) | (go_at_call 21; (with_reducible refine (dirrecord_Size.calls kj37 (wrap64 (ji7 + 2)) ji10 t178 _ A43.out).mono ?_); rintro e w' ⟨rfl, ⟨nd, rfl⟩⟩))
                            go_ret
                            exact ⟨by first | rfl | (simp [errW_none, errW_some] <;> rfl) | (simp only [← hji7, ← hji10]; first | rfl | (simp [errW_none, errW_some] <;> rfl)) | (simp [*, errW_none, errW_some] <;> rfl), by repeat (first | (with_reducible first | exact HB.out | apply below_alloc | apply pw_below_drewN | apply below_drew1 | refine below_set ?_ GE168.out) | exact HB.out)⟩
                        · rw [if_neg c42] at H
                          have c42b0 : (t177 == (wrap64 (t159 + 2))) = false := beq_eq_false_iff_ne.mpr c42
                          have c42b1 : (t177 != (wrap64 (t159 + 2))) = true := bne_iff_ne.mpr c42
                          obtain rfl := Option.some.inj H
                          go_wp2_with (first | ((with_reducible refine gate_callee (f := 21) rfl ?_); refine goesL_ (some 71) rfl rfl Try.func21 (by kernel_rfl) rfl #[.int .i64 ji7, .int .i64 (wrap64 (ji10 + 2))] rfl (by (try simp only [List.map_toArray, List.map_cons, List.map_nil]); first | done | (simp only [hji10, hji7]; rfl) | rfl | (simp only [List.length_drop, List.length_take]; rfl)) ?_; (with_reducible refine (dirrecord_Size.calls kj37 ji7 (wrap64 (ji10 + 2)) t177 _ A41.out).mono ?_); rintro e w' ⟨rfl, ⟨nd, rfl⟩⟩; refine ⟨_, rfl, ?_⟩))
                          go_ret
                          exact ⟨by first | rfl | (simp [errW_none, errW_some] <;> rfl) | (simp only [← hji7, ← hji10]; first | rfl | (simp [errW_none, errW_some] <;> rfl)) | (simp [*, errW_none, errW_some] <;> rfl), by repeat (first | (with_reducible first | exact HB.out | apply below_alloc | apply pw_below_drewN | apply below_drew1 | refine below_set ?_ GE168.out) | exact HB.out)⟩
          · rw [if_neg c12] at H
            exact absurd H (by simp)
        · rw [if_neg c11] at H
          exact absurd H (by simp)
      · rw [if_neg c9] at H
        exact absurd H (by simp)
    · rw [if_neg c8] at H
      exact absurd H (by simp)
  · replace c4 := Bool.eq_false_iff.mpr c4
    subst c4
    have H1 : (some false) = some r := by rw [if_neg (show ¬ (false = true) by decide)] at H; exact H
    clear H
    have H := H1
    clear H1
    obtain rfl := Option.some.inj H
    go_enter Try.func8, Try.ntmps8
    go_wp2_with (first | ((with_reducible refine gate_callee (f := 18) rfl ?_); refine goesL_ (some 11) rfl rfl Try.func18 (by kernel_rfl) rfl #[] rfl (by (try simp only [List.map_toArray, List.map_cons, List.map_nil]); first | done | rfl | (simp only [List.length_drop, List.length_take]; rfl)) ?_; (with_reducible refine (masterdisclaw20_awake.calls  false _ A3.out).mono ?_); rintro e w47 ⟨rfl, hb⟩; refine ⟨_, rfl, ?_⟩; have n0_ := Aside0.mk (below_step (by repeat (first | (with_reducible first | exact HB.out | apply below_alloc | apply pw_below_drewN | apply below_drew1) | exact HB.out)) hb); clear HB; have HB := n0_; clear n0_; (try clear hb); (try clear hb2); (try clear hk); (try clear hi)))
    go_ret
    exact ⟨by first | rfl | (simp [errW_none, errW_some] <;> rfl) | (simp [*, errW_none, errW_some] <;> rfl), by repeat (first | (with_reducible first | exact HB.out | apply below_alloc | apply pw_below_drewN | apply below_drew1) | exact HB.out)⟩

end Go.Proofs.Ytmmghiecjhfijaa.Z
