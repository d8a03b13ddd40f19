import Derived.Test.YthblghfobnhoeaaGreatKe7e6dfb4
import Derived.Test.YthblghfobnhoeaaGreatKeb91b463
import Derived.Deep.LoopGhost
import Derived.Deep.Cut
import Derived.Laws.CopyOwn
import Derived.Laws.CopyRow
import Derived.Deep.RegionLaw
import Derived.Test.YthblghfobnhoeaaGreatProg
import Derived.Lib.SmallJoins
import Derived.Deep.Slices
import Derived.Deep.Fields
import Derived.ChangeSame
namespace Go.Proofs.YthblghfobnhoeaaGreat.A
open Go.RowKit Go.Proofs.YthblghfobnhoeaaGreat.H Go.Proofs.YthblghfobnhoeaaGreatW.PrintWords Go.Proofs.YthblghfobnhoeaaGreatW.PrintLast Go.Proofs.YthblghfobnhoeaaGreatW.PrintMore
attribute [local go_sem] max2_int min2_int max_two min_two max_three min_three max_four min_four   -- for this text's walks alone
set_option linter.unusedVariables false
set_option linter.unusedSimpArgs false

/-! ### stringslite_Cut: function 89 -/
def stringslite_Cut.f (a0 : ByteArray) (a1 : ByteArray) : Option (ByteArray × ByteArray × Bool) := (stringslite_Index.f a0 a1).bind fun t110 => (if t110 ≥ 0 then (if 0 ≤ t110 then (if t110 ≤ (a0.size : Int) then (if 0 ≤ (wrap64 (t110 + (a1.size : Int))) then (if (wrap64 (t110 + (a1.size : Int))) ≤ (a0.size : Int) then (some (a0.extract 0 (t110 : Int).toNat, a0.extract ((wrap64 (t110 + (a1.size : Int))) : Int).toNat a0.size, true)) else (none)) else (none)) else (none)) else (none)) else (some (a0, (⟨#[]⟩ : ByteArray), false)))
set_option maxHeartbeats 8000000 in
set_option maxRecDepth 100000 in
theorem stringslite_Cut.calls (a0 : ByteArray) (a1 : ByteArray) (r1 : ByteArray) (r2 : ByteArray) (r3 : Bool) (w : World) (h : stringslite_Cut.f a0 a1 = some (r1, r2, r3)) :
  Calls Tryz.prog 89 #[.string a0, .string a1] w fun e w' => e = .returned (.tuple #[.string r1, .string r2, .bool r3]) ∧ Drawn0 w w' := by
 have H : ((stringslite_Index.f a0 a1).bind fun t110 => (if t110 ≥ 0 then (if 0 ≤ t110 then (if t110 ≤ (a0.size : Int) then (if 0 ≤ (wrap64 (t110 + (a1.size : Int))) then (if (wrap64 (t110 + (a1.size : Int))) ≤ (a0.size : Int) then (some (a0.extract 0 (t110 : Int).toNat, a0.extract ((wrap64 (t110 + (a1.size : Int))) : Int).toNat a0.size, true)) else (none)) else (none)) else (none)) else (none)) else (some (a0, (⟨#[]⟩ : ByteArray), false)))) = some (r1, r2, r3) := h
 clear h
 replace H := Option.bind_eq_some_iff.mp H
 obtain ⟨t110, A30, H⟩ := H
 replace H : (if t110 ≥ 0 then (if 0 ≤ t110 then (if t110 ≤ (a0.size : Int) then (if 0 ≤ (wrap64 (t110 + (a1.size : Int))) then (if (wrap64 (t110 + (a1.size : Int))) ≤ (a0.size : Int) then (some (a0.extract 0 (t110 : Int).toNat, a0.extract ((wrap64 (t110 + (a1.size : Int))) : Int).toNat a0.size, true)) else (none)) else (none)) else (none)) else (none)) else (some (a0, (⟨#[]⟩ : ByteArray), false))) = some (r1, r2, r3) := H
 have A3 := Aside0.mk A30
 clear A30
 by_cases c4 : t110 ≥ 0
 ·rw [if_pos c4] at H
  have c4b0 : decide (0 ≤ t110) = true := decide_eq_true c4
  clear c4
  by_cases c5 : 0 ≤ t110
  rotate_left
  ·rw [if_neg c5] at H
   exact absurd H (by simp)
  rw [if_pos c5] at H
  have c5b0 := eq_true c5
  have c5b1 : decide (0 ≤ t110) = true := decide_eq_true c5
  clear c5
  by_cases c6 : t110 ≤ (a0.size : Int)
  rotate_left
  ·rw [if_neg c6] at H
   exact absurd H (by simp)
  rw [if_pos c6] at H
  have c6b0 := eq_true c6
  have c6b1 : decide (t110 ≤ (a0.size : Int)) = true := decide_eq_true c6
  clear c6
  obtain ⟨ji7, hji7⟩ : ∃ j_ : Int, (wrap64 (t110 + (a1.size : Int))) = j_ := ⟨_, rfl⟩
  replace H : (if 0 ≤ (ji7) then (if (ji7) ≤ (a0.size : Int) then (some (a0.extract 0 (t110 : Int).toNat, a0.extract ((ji7) : Int).toNat a0.size, true)) else (none)) else (none)) = some (r1, r2, r3) := by first | (rw [hji7] at H; exact H) | (simp only [hji7] at H ⊢; exact H)
  (try rw [hji7] at A3)
  have hji7w : (IntKind.i64.wrap (t110 + (a1.size : Int))) = ji7 := (i64_w _).trans hji7
  by_cases c8 : 0 ≤ (ji7)
  rotate_left
  ·rw [if_neg c8] at H
   exact absurd H (by simp)
  rw [if_pos c8] at H
  have c8b0 := eq_true c8
  have c8b1 : decide (0 ≤ (ji7)) = true := decide_eq_true c8
  clear c8
  by_cases c9 : (ji7) ≤ (a0.size : Int)
  rotate_left
  ·rw [if_neg c9] at H
   exact absurd H (by simp)
  rw [if_pos c9] at H
  have c9b0 := eq_true c9
  have c9b1 : decide ((ji7) ≤ (a0.size : Int)) = true := decide_eq_true c9
  clear c9
  simp only [Option.some.injEq, Prod.mk.injEq] at H
  obtain ⟨rfl, rfl, rfl⟩ := H
  go_enter Tryz.func89, Tryz.ntmps89
  go_wp2_with (first | (go_at_call 114; (with_reducible refine (stringslite_Index.calls a0 a1 t110 _ A3.out).mono ?_); rintro e w' ⟨rfl, ⟨nd, rfl⟩⟩; (try first | exact ⟨rfl, _, World.drewN_drewN _ _ _⟩ | exact ⟨rfl, _, Eq.trans (World.drewN_drewN _ _ _) (congrArg (World.drewN _) (Nat.add_assoc _ _ _))⟩)))
  repeat (go_quiet (first | (go_at_call 114; (with_reducible refine (stringslite_Index.calls a0 a1 t110 _ A3.out).mono ?_); rintro e w' ⟨rfl, ⟨nd, rfl⟩⟩; (try first | exact ⟨rfl, _, World.drewN_drewN _ _ _⟩ | exact ⟨rfl, _, Eq.trans (World.drewN_drewN _ _ _) (congrArg (World.drewN _) (Nat.add_assoc _ _ _))⟩))); try go_wp2_with (first | (go_at_call 114; (with_reducible refine (stringslite_Index.calls a0 a1 t110 _ A3.out).mono ?_); rintro e w' ⟨rfl, ⟨nd, rfl⟩⟩; (try first | exact ⟨rfl, _, World.drewN_drewN _ _ _⟩ | exact ⟨rfl, _, Eq.trans (World.drewN_drewN _ _ _) (congrArg (World.drewN _) (Nat.add_assoc _ _ _))⟩))))
  go_ret3
  exact ⟨by first | rfl | (simp; done) | (simp only [← hji7] <;> (first | rfl | simp)) | (simp [*]; done), by repeat (first | exact Drawn0.refl _ | apply Drawn0.step)⟩
 ·rw [if_neg c4] at H
  have c4b0 : decide (0 ≤ t110) = false := decide_eq_false c4
  clear c4
  simp only [Option.some.injEq, Prod.mk.injEq] at H
  obtain ⟨rfl, rfl, rfl⟩ := H
  go_enter Tryz.func89, Tryz.ntmps89
  go_wp2_with (first | (go_at_call 114; (with_reducible refine (stringslite_Index.calls a0 a1 t110 _ A3.out).mono ?_); rintro e w' ⟨rfl, ⟨nd, rfl⟩⟩; (try first | exact ⟨rfl, _, World.drewN_drewN _ _ _⟩ | exact ⟨rfl, _, Eq.trans (World.drewN_drewN _ _ _) (congrArg (World.drewN _) (Nat.add_assoc _ _ _))⟩)))
  repeat (go_quiet (first | (go_at_call 114; (with_reducible refine (stringslite_Index.calls a0 a1 t110 _ A3.out).mono ?_); rintro e w' ⟨rfl, ⟨nd, rfl⟩⟩; (try first | exact ⟨rfl, _, World.drewN_drewN _ _ _⟩ | exact ⟨rfl, _, Eq.trans (World.drewN_drewN _ _ _) (congrArg (World.drewN _) (Nat.add_assoc _ _ _))⟩))); try go_wp2_with (first | (go_at_call 114; (with_reducible refine (stringslite_Index.calls a0 a1 t110 _ A3.out).mono ?_); rintro e w' ⟨rfl, ⟨nd, rfl⟩⟩; (try first | exact ⟨rfl, _, World.drewN_drewN _ _ _⟩ | exact ⟨rfl, _, Eq.trans (World.drewN_drewN _ _ _) (congrArg (World.drewN _) (Nat.add_assoc _ _ _))⟩))))
  go_ret3
  exact ⟨by first | rfl | (simp; done) | (simp [*]; done), by repeat (first | exact Drawn0.refl _ | apply Drawn0.step)⟩

/-! ### strings_Cut: function 62 -/
def strings_Cut.f (a0 : ByteArray) (a1 : ByteArray) : Option (ByteArray × ByteArray × Bool) := (stringslite_Cut.f a0 a1).bind fun bt111 => (some (bt111.1, bt111.2.1, bt111.2.2))
set_option maxHeartbeats 8000000 in
set_option maxRecDepth 100000 in
theorem strings_Cut.calls (a0 : ByteArray) (a1 : ByteArray) (r1 : ByteArray) (r2 : ByteArray) (r3 : Bool) (w : World) (h : strings_Cut.f a0 a1 = some (r1, r2, r3)) :
  Calls Tryz.prog 62 #[.string a0, .string a1] w fun e w' => e = .returned (.tuple #[.string r1, .string r2, .bool r3]) ∧ Drawn0 w w' := by
 have H : ((stringslite_Cut.f a0 a1).bind fun bt111 => (some (bt111.1, bt111.2.1, bt111.2.2))) = some (r1, r2, r3) := h
 clear h
 replace H := Option.bind_eq_some_iff.mp H
 obtain ⟨⟨t111, t112, t113⟩, A30, H⟩ := H
 replace H : (some (t111, t112, t113)) = some (r1, r2, r3) := H
 have A3 := Aside0.mk A30
 clear A30
 simp only [Option.some.injEq, Prod.mk.injEq] at H
 obtain ⟨rfl, rfl, rfl⟩ := H
 go_enter Tryz.func62, Tryz.ntmps62
 go_wp2_with (first | ((with_reducible refine gate_callee (f := 89) rfl ?_); refine gL (some 9) Tryz.func89 #[.string a0, .string a1] ?_; (with_reducible refine (stringslite_Cut.calls a0 a1 t111 t112 t113 _ A3.out).mono ?_); rintro e w' ⟨rfl, ⟨nd, rfl⟩⟩; refine ⟨_, rfl, ?_⟩))
 go_ret3
 exact ⟨by first | rfl | (simp; done) | (simp [*]; done), by repeat (first | exact Drawn0.refl _ | apply Drawn0.step)⟩

/-! ### directory_parts: function 35 -/
def directory_parts.f (a0 : ByteArray) : Option (ByteArray × ByteArray × ByteArray) := (strings_IndexAny.f a0 (⟨#[46, 59]⟩ : ByteArray)).bind fun t114 => (if t114 < 0 then (some (a0, (⟨#[]⟩ : ByteArray), (⟨#[]⟩ : ByteArray))) else (if 0 ≤ t114 then (if t114 ≤ (a0.size : Int) then (if 0 ≤ (wrap64 (t114 + 1)) then (if (wrap64 (t114 + 1)) ≤ (a0.size : Int) then (if t114 < (a0.size : Int) then (if (bt a0 t114) = 59 then (some (a0.extract 0 (t114 : Int).toNat, (⟨#[]⟩ : ByteArray), a0.extract ((wrap64 (t114 + 1)) : Int).toNat a0.size)) else ((strings_Cut.f (a0.extract ((wrap64 (t114 + 1)) : Int).toNat a0.size) (⟨#[59]⟩ : ByteArray)).bind fun bt115 => (some (a0.extract 0 (t114 : Int).toNat, bt115.1, bt115.2.1)))) else (none)) else (none)) else (none)) else (none)) else (none)))
set_option maxHeartbeats 8000000 in
set_option maxRecDepth 100000 in
theorem directory_parts.calls (a0 : ByteArray) (r1 : ByteArray) (r2 : ByteArray) (r3 : ByteArray) (w : World) (h : directory_parts.f a0 = some (r1, r2, r3)) :
  Calls Tryz.prog 35 #[.string a0] w fun e w' => e = .returned (.tuple #[.string r1, .string r2, .string r3]) ∧ Below w.heap.size w w' := by
 have HB := Aside0.mk (Below.refl w.heap.size w)
 have H : ((strings_IndexAny.f a0 (⟨#[46, 59]⟩ : ByteArray)).bind fun t114 => (if t114 < 0 then (some (a0, (⟨#[]⟩ : ByteArray), (⟨#[]⟩ : ByteArray))) else (if 0 ≤ t114 then (if t114 ≤ (a0.size : Int) then (if 0 ≤ (wrap64 (t114 + 1)) then (if (wrap64 (t114 + 1)) ≤ (a0.size : Int) then (if t114 < (a0.size : Int) then (if (bt a0 t114) = 59 then (some (a0.extract 0 (t114 : Int).toNat, (⟨#[]⟩ : ByteArray), a0.extract ((wrap64 (t114 + 1)) : Int).toNat a0.size)) else ((strings_Cut.f (a0.extract ((wrap64 (t114 + 1)) : Int).toNat a0.size) (⟨#[59]⟩ : ByteArray)).bind fun bt115 => (some (a0.extract 0 (t114 : Int).toNat, bt115.1, bt115.2.1)))) else (none)) else (none)) else (none)) else (none)) else (none)))) = some (r1, r2, r3) := h
 clear h
 replace H := Option.bind_eq_some_iff.mp H
 obtain ⟨t114, A20, H⟩ := H
 replace H : (if t114 < 0 then (some (a0, (⟨#[]⟩ : ByteArray), (⟨#[]⟩ : ByteArray))) else (if 0 ≤ t114 then (if t114 ≤ (a0.size : Int) then (if 0 ≤ (wrap64 (t114 + 1)) then (if (wrap64 (t114 + 1)) ≤ (a0.size : Int) then (if t114 < (a0.size : Int) then (if (bt a0 t114) = 59 then (some (a0.extract 0 (t114 : Int).toNat, (⟨#[]⟩ : ByteArray), a0.extract ((wrap64 (t114 + 1)) : Int).toNat a0.size)) else ((strings_Cut.f (a0.extract ((wrap64 (t114 + 1)) : Int).toNat a0.size) (⟨#[59]⟩ : ByteArray)).bind fun bt115 => (some (a0.extract 0 (t114 : Int).toNat, bt115.1, bt115.2.1)))) else (none)) else (none)) else (none)) else (none)) else (none))) = some (r1, r2, r3) := H
 have A2 := Aside0.mk A20
 clear A20
 by_cases c3 : t114 < 0
 ·rw [if_pos c3] at H
  have c3b0 : decide (t114 < 0) = true := decide_eq_true c3
  clear c3
  simp only [Option.some.injEq, Prod.mk.injEq] at H
  obtain ⟨rfl, rfl, rfl⟩ := H
  go_enter Tryz.func35, Tryz.ntmps35
  go_wp2_with (first | (go_at_call 61; (with_reducible refine (strings_IndexAny.calls a0 (⟨#[46, 59]⟩ : ByteArray) t114 _ A2.out).mono ?_); rintro e w4 ⟨rfl, hb⟩; have n0_ := Aside0.mk (below_step (uB HB.out) hb); clear HB; have HB := n0_; clear n0_; (try clear hb); (try clear hb2); (try clear hk); (try clear hi)))
  repeat (go_quiet (first | (go_at_call 61; (with_reducible refine (strings_IndexAny.calls a0 (⟨#[46, 59]⟩ : ByteArray) t114 _ A2.out).mono ?_); rintro e w4 ⟨rfl, hb⟩; have n0_ := Aside0.mk (below_step (uB HB.out) hb); clear HB; have HB := n0_; clear n0_; (try clear hb); (try clear hb2); (try clear hk); (try clear hi))); try go_wp2_with (first | (go_at_call 61; (with_reducible refine (strings_IndexAny.calls a0 (⟨#[46, 59]⟩ : ByteArray) t114 _ A2.out).mono ?_); rintro e w4 ⟨rfl, hb⟩; have n0_ := Aside0.mk (below_step (uB HB.out) hb); clear HB; have HB := n0_; clear n0_; (try clear hb); (try clear hb2); (try clear hk); (try clear hi))))
  go_ret3
  exact ⟨by first | rfl | (simp [errW_none, errW_some] <;> rfl) | (simp [*, errW_none, errW_some] <;> rfl), uB HB.out⟩
 ·rw [if_neg c3] at H
  have c3b0 : decide (t114 < 0) = false := decide_eq_false c3
  clear c3
  by_cases c5 : 0 ≤ t114
  rotate_left
  ·rw [if_neg c5] at H
   exact absurd H (by simp)
  rw [if_pos c5] at H
  have c5b0 := eq_true c5
  have c5b1 : decide (0 ≤ t114) = true := decide_eq_true c5
  clear c5
  by_cases c6 : t114 ≤ (a0.size : Int)
  rotate_left
  ·rw [if_neg c6] at H
   exact absurd H (by simp)
  rw [if_pos c6] at H
  have c6b0 := eq_true c6
  have c6b1 : decide (t114 ≤ (a0.size : Int)) = true := decide_eq_true c6
  clear c6
  obtain ⟨ji7, hji7⟩ : ∃ j_ : Int, (wrap64 (t114 + 1)) = j_ := ⟨_, rfl⟩
  replace H : (if 0 ≤ (ji7) then (if (ji7) ≤ (a0.size : Int) then (if t114 < (a0.size : Int) then (if (bt a0 t114) = 59 then (some (a0.extract 0 (t114 : Int).toNat, (⟨#[]⟩ : ByteArray), a0.extract ((ji7) : Int).toNat a0.size)) else ((strings_Cut.f (a0.extract ((ji7) : Int).toNat a0.size) (⟨#[59]⟩ : ByteArray)).bind fun bt115 => (some (a0.extract 0 (t114 : Int).toNat, bt115.1, bt115.2.1)))) else (none)) else (none)) else (none)) = some (r1, r2, r3) := by first | (rw [hji7] at H; exact H) | (simp only [hji7] at H ⊢; exact H)
  (try rw [hji7] at A2)
  have hji7w : (IntKind.i64.wrap (t114 + 1)) = ji7 := (i64_w _).trans hji7
  by_cases c8 : 0 ≤ (ji7)
  rotate_left
  ·rw [if_neg c8] at H
   exact absurd H (by simp)
  rw [if_pos c8] at H
  have c8b0 := eq_true c8
  have c8b1 : decide (0 ≤ (ji7)) = true := decide_eq_true c8
  clear c8
  by_cases c9 : (ji7) ≤ (a0.size : Int)
  rotate_left
  ·rw [if_neg c9] at H
   exact absurd H (by simp)
  rw [if_pos c9] at H
  have c9b0 := eq_true c9
  have c9b1 : decide ((ji7) ≤ (a0.size : Int)) = true := decide_eq_true c9
  clear c9
  by_cases c10 : t114 < (a0.size : Int)
  rotate_left
  ·rw [if_neg c10] at H
   exact absurd H (by simp)
  rw [if_pos c10] at H
  have c10b0 : decide (t114 < (a0.size : Int)) = true := decide_eq_true c10
  clear c10
  by_cases c12 : (bt a0 t114) = 59
  ·rw [if_pos c12] at H
   have c12b0 : ((bt a0 t114) == 59) = true := beq_iff_eq.mpr c12
   have c12b1 : ((bt a0 t114) != 59) = false := bne_eq_false_iff_eq.mpr c12
   clear c12
   simp only [Option.some.injEq, Prod.mk.injEq] at H
   obtain ⟨rfl, rfl, rfl⟩ := H
   go_enter Tryz.func35, Tryz.ntmps35
   go_wp2_with (first | (go_at_call 61; (with_reducible refine (strings_IndexAny.calls a0 (⟨#[46, 59]⟩ : ByteArray) t114 _ A2.out).mono ?_); rintro e w13 ⟨rfl, hb⟩; have n0_ := Aside0.mk (below_step (uB HB.out) hb); clear HB; have HB := n0_; clear n0_; (try clear hb); (try clear hb2); (try clear hk); (try clear hi); have p11 : 0 ≤ (t114 : Int) := of_decide_eq_true (by first | (with_reducible assumption) | assumption); have q11 : t114 < (a0.size : Int) := of_decide_eq_true (by first | (with_reducible assumption) | assumption); have hx11 := bt_at a0 t114; replace p11 := eq_true p11; replace q11 := eq_true q11))
   repeat (go_quiet (first | (go_at_call 61; (with_reducible refine (strings_IndexAny.calls a0 (⟨#[46, 59]⟩ : ByteArray) t114 _ A2.out).mono ?_); rintro e w13 ⟨rfl, hb⟩; have n0_ := Aside0.mk (below_step (uB HB.out) hb); clear HB; have HB := n0_; clear n0_; (try clear hb); (try clear hb2); (try clear hk); (try clear hi); have p11 : 0 ≤ (t114 : Int) := of_decide_eq_true (by first | (with_reducible assumption) | assumption); have q11 : t114 < (a0.size : Int) := of_decide_eq_true (by first | (with_reducible assumption) | assumption); have hx11 := bt_at a0 t114; replace p11 := eq_true p11; replace q11 := eq_true q11)); try go_wp2_with (first | (go_at_call 61; (with_reducible refine (strings_IndexAny.calls a0 (⟨#[46, 59]⟩ : ByteArray) t114 _ A2.out).mono ?_); rintro e w13 ⟨rfl, hb⟩; have n0_ := Aside0.mk (below_step (uB HB.out) hb); clear HB; have HB := n0_; clear n0_; (try clear hb); (try clear hb2); (try clear hk); (try clear hi); have p11 : 0 ≤ (t114 : Int) := of_decide_eq_true (by first | (with_reducible assumption) | assumption); have q11 : t114 < (a0.size : Int) := of_decide_eq_true (by first | (with_reducible assumption) | assumption); have hx11 := bt_at a0 t114; replace p11 := eq_true p11; replace q11 := eq_true q11)))
   go_ret3
   exact ⟨by first | rfl | (simp [errW_none, errW_some] <;> rfl) | (simp only [← hji7]; first | rfl | (simp [errW_none, errW_some] <;> rfl)) | (simp [*, errW_none, errW_some] <;> rfl), uB HB.out⟩
  ·rw [if_neg c12] at H
   have c12b0 : ((bt a0 t114) == 59) = false := beq_eq_false_iff_ne.mpr c12
   have c12b1 : ((bt a0 t114) != 59) = true := bne_iff_ne.mpr c12
   replace H := Option.bind_eq_some_iff.mp H
   obtain ⟨⟨t115, t116, t117⟩, A140, H⟩ := H
   replace H : (some (a0.extract 0 (t114 : Int).toNat, t115, t116)) = some (r1, r2, r3) := H
   have A14 := Aside0.mk A140
   clear A140
   simp only [Option.some.injEq, Prod.mk.injEq] at H
   obtain ⟨rfl, rfl, rfl⟩ := H
   go_enter Tryz.func35, Tryz.ntmps35
   go_wp2_with (first | (go_at_call 61; (with_reducible refine (strings_IndexAny.calls a0 (⟨#[46, 59]⟩ : ByteArray) t114 _ A2.out).mono ?_); rintro e w15 ⟨rfl, hb⟩; have n0_ := Aside0.mk (below_step (uB HB.out) hb); clear HB; have HB := n0_; clear n0_; (try clear hb); (try clear hb2); (try clear hk); (try clear hi); have p11 : 0 ≤ (t114 : Int) := of_decide_eq_true (by first | (with_reducible assumption) | assumption); have q11 : t114 < (a0.size : Int) := of_decide_eq_true (by first | (with_reducible assumption) | assumption); have hx11 := bt_at a0 t114; replace p11 := eq_true p11; replace q11 := eq_true q11) | (go_at_call 62; (with_reducible refine (strings_Cut.calls (a0.extract ((ji7) : Int).toNat a0.size) (⟨#[59]⟩ : ByteArray) t115 t116 t117 _ A14.out).mono ?_); rintro e w' ⟨rfl, ⟨nd, rfl⟩⟩; (try first | exact ⟨rfl, _, World.drewN_drewN _ _ _⟩ | exact ⟨rfl, _, Eq.trans (World.drewN_drewN _ _ _) (congrArg (World.drewN _) (Nat.add_assoc _ _ _))⟩)))
   repeat (go_quiet (first | (go_at_call 61; (with_reducible refine (strings_IndexAny.calls a0 (⟨#[46, 59]⟩ : ByteArray) t114 _ A2.out).mono ?_); rintro e w15 ⟨rfl, hb⟩; have n0_ := Aside0.mk (below_step (uB HB.out) hb); clear HB; have HB := n0_; clear n0_; (try clear hb); (try clear hb2); (try clear hk); (try clear hi); have p11 : 0 ≤ (t114 : Int) := of_decide_eq_true (by first | (with_reducible assumption) | assumption); have q11 : t114 < (a0.size : Int) := of_decide_eq_true (by first | (with_reducible assumption) | assumption); have hx11 := bt_at a0 t114; replace p11 := eq_true p11; replace q11 := eq_true q11) | (go_at_call 62; (with_reducible refine (strings_Cut.calls (a0.extract ((ji7) : Int).toNat a0.size) (⟨#[59]⟩ : ByteArray) t115 t116 t117 _ A14.out).mono ?_); rintro e w' ⟨rfl, ⟨nd, rfl⟩⟩; (try first | exact ⟨rfl, _, World.drewN_drewN _ _ _⟩ | exact ⟨rfl, _, Eq.trans (World.drewN_drewN _ _ _) (congrArg (World.drewN _) (Nat.add_assoc _ _ _))⟩))); try go_wp2_with (first | (go_at_call 61; (with_reducible refine (strings_IndexAny.calls a0 (⟨#[46, 59]⟩ : ByteArray) t114 _ A2.out).mono ?_); rintro e w15 ⟨rfl, hb⟩; have n0_ := Aside0.mk (below_step (uB HB.out) hb); clear HB; have HB := n0_; clear n0_; (try clear hb); (try clear hb2); (try clear hk); (try clear hi); have p11 : 0 ≤ (t114 : Int) := of_decide_eq_true (by first | (with_reducible assumption) | assumption); have q11 : t114 < (a0.size : Int) := of_decide_eq_true (by first | (with_reducible assumption) | assumption); have hx11 := bt_at a0 t114; replace p11 := eq_true p11; replace q11 := eq_true q11) | (go_at_call 62; (with_reducible refine (strings_Cut.calls (a0.extract ((ji7) : Int).toNat a0.size) (⟨#[59]⟩ : ByteArray) t115 t116 t117 _ A14.out).mono ?_); rintro e w' ⟨rfl, ⟨nd, rfl⟩⟩; (try first | exact ⟨rfl, _, World.drewN_drewN _ _ _⟩ | exact ⟨rfl, _, Eq.trans (World.drewN_drewN _ _ _) (congrArg (World.drewN _) (Nat.add_assoc _ _ _))⟩))))
   go_ret3
   exact ⟨by first | rfl | (simp [errW_none, errW_some] <;> rfl) | (simp only [← hji7]; first | rfl | (simp [errW_none, errW_some] <;> rfl)) | (simp [*, errW_none, errW_some] <;> rfl), uB HB.out⟩

/-! ### cmp_Or_int: function 36 -/
def cmp_Or_int.l0 : Nat → Int → List Int → Int → Int → Option (Int)
 | 0, _, _, _, _ => none
 | k + 1, x3, x6, x7, x8 => if x8 < x7 then (if 0 ≤ x8 then (if x8 < (x6.length : Int) then (if (rd x6 x8) = x3 then (cmp_Or_int.l0 k x3 x6 x7 (wrap64 (x8 + 1))) else (some (rd x6 x8))) else (none)) else (none)) else (some x3)
def cmp_Or_int.f (k : Nat) (l0 : List Int) : Option (Int) := cmp_Or_int.l0 k 0 l0 (l0.length : Int) 0
theorem cmp_Or_int.mono_l : ∀ k, (∀ y0 y1 y2 y3, LeO (cmp_Or_int.l0 k y0 y1 y2 y3) (cmp_Or_int.l0 (k + 1) y0 y1 y2 y3))
 | 0 => fun _ _ _ _ r h => by simp [cmp_Or_int.l0] at h
 | k + 1 => by
  have ih0 := cmp_Or_int.mono_l k
  ·intro y0 y1 y2 y3
   unfold cmp_Or_int.l0
   repeat' first
   | (with_reducible exact ih0 _ _ _ _)
   | (with_reducible exact LeO.refl _)
   | (with_reducible exact LeO.none _)
   | (with_reducible refine LeO.ite ?_ ?_)
   | (with_reducible refine LeO.bind ?_ (fun _ => ?_))
   | exact ih0 _ _ _ _
   | exact LeO.none _
   | refine LeO.ite ?_ ?_
   | refine LeO.bind ?_ (fun _ => ?_)
theorem cmp_Or_int.mono : ∀ a0 k, LeO (cmp_Or_int.f k a0) (cmp_Or_int.f (k + 1) a0) := by
 intro a0 k
 have ih0 := cmp_Or_int.mono_l k
 unfold cmp_Or_int.f
 repeat' first
   | (with_reducible exact ih0 _ _ _ _)
   | (with_reducible exact LeO.refl _)
   | (with_reducible exact LeO.none _)
   | (with_reducible refine LeO.ite ?_ ?_)
   | (with_reducible refine LeO.bind ?_ (fun _ => ?_))
   | exact ih0 _ _ _ _
   | exact LeO.none _
   | refine LeO.ite ?_ ?_
   | refine LeO.bind ?_ (fun _ => ?_)
set_option maxHeartbeats 8000000 in
set_option maxRecDepth 100000 in
theorem cmp_Or_int.calls (k : Nat) (A0 : Option Addr) (c0 : Nat) (l0 : List Int) (r : Int) (w : World) (hr0 : Kd.C (Kd.int .i64) w A0 l0.length l0) (hc0 : l0.length ≤ c0) (h : cmp_Or_int.f k l0 = some r) :
  Calls Tryz.prog 36 #[.slice A0 l0.length c0] w fun e w' => e = .returned (.int .i64 r) ∧ Drawn0 w w' := by
 have HR0 := Aside0.mk hr0
 have HC0 := Aside0.mk hc0
 clear hr0 hc0
 have H : (cmp_Or_int.l0 k 0 l0 (l0.length : Int) 0) = some r := h
 clear h
 have H' := Aside0.mk H
 clear H
 go_enter Tryz.func36, Tryz.ntmps36
 go_wp2
 go_loopg [8] k (fun kq v8 w' => ∃ (x8_1 : Int), v8 = .int .i64 x8_1 ∧ Aside0 (cmp_Or_int.l0 kq 0 l0 (l0.length : Int) x8_1 = some r) ∧ Aside0 (kq ≤ k) ∧ Drawn0 w w')
 case atStart => exact ⟨(0), (by first | rfl | (simp; done) | (simp [*]; done)), H', ⟨Nat.le_refl _⟩, by repeat (first | exact Drawn0.refl _ | apply Drawn0.step)⟩
 case round =>
  clear H'
  obtain ⟨x8_1, rfl, HA, HK1, ⟨m1, rfl⟩⟩ := hrel
  cases gk with
  | zero => exact absurd HA.out (by simp [cmp_Or_int.l0])
  | succ k1 =>
   have H := HA.out
   clear HA
   simp only [cmp_Or_int.l0] at H
   by_cases c2 : x8_1 < (l0.length : Int)
   ·rw [if_pos c2] at H
    have c2b0 : decide (x8_1 < (l0.length : Int)) = true := decide_eq_true c2
    clear c2
    by_cases c3 : 0 ≤ x8_1
    rotate_left
    ·rw [if_neg c3] at H
     exact absurd H (by simp)
    rw [if_pos c3] at H
    have c3b0 : decide (0 ≤ x8_1) = true := decide_eq_true c3
    clear c3
    by_cases c4 : x8_1 < (l0.length : Int)
    rotate_left
    ·rw [if_neg c4] at H
     exact absurd H (by simp)
    rw [if_pos c4] at H
    have c4b0 : decide (x8_1 < (l0.length : Int)) = true := decide_eq_true c4
    clear c4
    by_cases c5 : (rd l0 x8_1) = 0
    ·rw [if_pos c5] at H
     have c5b0 : ((rd l0 x8_1) == 0) = true := beq_iff_eq.mpr c5
     have c5b1 : ((rd l0 x8_1) != 0) = false := bne_eq_false_iff_eq.mpr c5
     clear c5
     have H' := Aside0.mk H
     clear H
     have p118 : 0 ≤ (x8_1 : Int) := of_decide_eq_true (by first | (with_reducible assumption) | assumption)
     have q118 : x8_1 < (l0.length : Int) := of_decide_eq_true (by first | (with_reducible assumption) | assumption)
     obtain ⟨ad118, e118, hx118_0⟩ := Kd.at_int HR0.out x8_1 p118 q118
     cases e118
     replace p118 := eq_true p118
     replace q118 := eq_true q118
     go_wp2
     go_roundg k1
     case measure => have := HK1.out; omega
     case rel => exact ⟨(wrap64 (x8_1 + 1)), (by first | rfl | (simp; done) | (simp [*]; done)), H', ⟨by have := HK1.out; omega⟩, by repeat (first | exact Drawn0.refl _ | apply Drawn0.step)⟩
    ·rw [if_neg c5] at H
     have c5b0 : ((rd l0 x8_1) == 0) = false := beq_eq_false_iff_ne.mpr c5
     have c5b1 : ((rd l0 x8_1) != 0) = true := bne_iff_ne.mpr c5
     obtain rfl := Option.some.inj H
     have p118 : 0 ≤ (x8_1 : Int) := of_decide_eq_true (by first | (with_reducible assumption) | assumption)
     have q118 : x8_1 < (l0.length : Int) := of_decide_eq_true (by first | (with_reducible assumption) | assumption)
     obtain ⟨ad118, e118, hx118_0⟩ := Kd.at_int HR0.out x8_1 p118 q118
     cases e118
     replace p118 := eq_true p118
     replace q118 := eq_true q118
     go_wp2
     go_ret
     exact ⟨by first | rfl | (simp; done) | (simp [*]; done), by repeat (first | exact Drawn0.refl _ | apply Drawn0.step)⟩
   ·rw [if_neg c2] at H
    have c2b0 : decide (x8_1 < (l0.length : Int)) = false := decide_eq_false c2
    clear c2
    obtain rfl := Option.some.inj H
    go_wp2
    go_ret
    exact ⟨by first | rfl | (simp; done) | (simp [*]; done), by repeat (first | exact Drawn0.refl _ | apply Drawn0.step)⟩

-- NOT PRINTED: function 90 (bytealg_abigen_runtime_cmpstring)

-- NOT PRINTED: function 63 (bytealg_CompareString)

end Go.Proofs.YthblghfobnhoeaaGreat.A
namespace Go.Proofs.YthblghfobnhoeaaGreat.H
open Go.RowKit Go.Proofs.YthblghfobnhoeaaGreatW.PrintWords Go.Proofs.YthblghfobnhoeaaGreatW.PrintLast Go.Proofs.YthblghfobnhoeaaGreatW.PrintMore
attribute [local go_sem] max2_int min2_int max_two min_two
set_option linter.unusedVariables false
set_option linter.unusedSimpArgs false

/-! directory.behind: two strings bytewise, the shorter one with bytes behind it. -/
/-- A byte of a string, or what stands behind it. -/
def atF (s : ByteArray) (f : Int) (i : Nat) : Int := if i < s.size then bt s (i : Int) else f
/-- The order of two numbers. -/
def cmpV (x y : Int) : Int := if x < y then -1 else if x > y then 1 else 0
/-- The first difference from the i-th byte on, j bytes. -/
def bhV (a b : ByteArray) (f : Int) : Nat → Nat → Int
  | 0, _ => 0
  | j + 1, i => if cmpV (atF a f i) (atF b f i) = 0 then bhV a b f j (i + 1) else cmpV (atF a f i) (atF b f i)

set_option maxRecDepth 100000 in
set_option maxHeartbeats 4000000 in
theorem nan_byte (x : Int) (w : World) : Calls Tryz.prog 84 #[.int .u8 x] w fun e w' => e = .returned (.bool false) ∧ w' = w := by
  have hx : (x != x) = false := bne_self_eq_false x
  go_enter Tryz.func84, Tryz.ntmps84
  go_wp2
  go_ret
  exact ⟨rfl, rfl⟩
set_option maxRecDepth 100000 in
set_option maxHeartbeats 4000000 in
theorem cmp_byte (x y : Int) (w : World) : Calls Tryz.prog 60 #[.int .u8 x, .int .u8 y] w fun e w' => e = .returned (.int .i64 (cmpV x y)) ∧ w' = w := by
  unfold cmpV
  by_cases h1 : x < y
  · rw [if_pos h1]
    have d1 : decide (x < y) = true := decide_eq_true h1
    go_enter Tryz.func60, Tryz.ntmps60
    go_wp2_with (go_at_call 84; refine (nan_byte _ _).mono ?_; rintro e w' ⟨rfl, rfl⟩)
    go_ret
    exact ⟨rfl, rfl⟩
  · rw [if_neg h1]
    have d1 : decide (x < y) = false := decide_eq_false h1
    by_cases h2 : x > y
    · rw [if_pos h2]
      have d2 : decide (y < x) = true := decide_eq_true h2
      go_enter Tryz.func60, Tryz.ntmps60
      go_wp2_with (go_at_call 84; refine (nan_byte _ _).mono ?_; rintro e w' ⟨rfl, rfl⟩)
      go_ret
      exact ⟨rfl, rfl⟩
    · rw [if_neg h2]
      have d2 : decide (y < x) = false := decide_eq_false h2
      go_enter Tryz.func60, Tryz.ntmps60
      go_wp2_with (go_at_call 84; refine (nan_byte _ _).mono ?_; rintro e w' ⟨rfl, rfl⟩)
      go_ret
      exact ⟨rfl, rfl⟩
set_option maxRecDepth 100000 in
set_option maxHeartbeats 4000000 in
theorem at_any (s : ByteArray) (i : Nat) (f : Int) (c : Addr) (w : World) (hc : w.cell? c = some (.int .u8 f)) : Calls Tryz.prog 59 #[.string s, .int .i64 (i : Int), .pointer (some c)] w fun e w' => e = .returned (.int .u8 (atF s f i)) ∧ w' = w := by
  unfold atF
  by_cases h : i < s.size
  · rw [if_pos h]
    have d : decide ((i : Int) < (s.size : Int)) = true := decide_eq_true (by omega)
    have hx : ∀ h : i < s.size, ((s[i]'h).toNat : Int) = bt s (i : Int) := fun h => bt_at s (i : Int) h
    have h0 : (i : Int) < (s.size : Int) := by omega
    go_enter Tryz.func59, Tryz.ntmps59
    go_wp2
    go_ret
    exact ⟨rfl, rfl⟩
  · rw [if_neg h]
    have d : decide ((i : Int) < (s.size : Int)) = false := decide_eq_false (by omega)
    go_enter Tryz.func59, Tryz.ntmps59
    go_wp2
    go_ret
    exact ⟨rfl, rfl⟩

set_option maxRecDepth 100000 in
set_option maxHeartbeats 4000000 in
theorem behind_any (a b : ByteArray) (f : Int) (w : World) (ha : a.size ≤ 1000000) (hb : b.size ≤ 1000000) :
    Calls Tryz.prog 34 #[.string a, .string b, .int .u8 f] w fun e w' => e = .returned (.int .i64 (bhV a b f (max a.size b.size) 0)) ∧ Below w.heap.size w w' := by
  have hn : max a.size b.size ≤ 1000000 := Nat.max_le.2 ⟨ha, hb⟩
  generalize hmn : max a.size b.size = n at hn ⊢
  go_enter Tryz.func34, Tryz.ntmps34
  go_upto_region 2 with fail
  go_cut [15, 16] from 11 (fun s15 s16 wx => s15 = .int .i64 (n : Int) ∧ s16 = .int .i64 0 ∧ wx = w.alloc (.cells #[.int .u8 f] 5))
  case first =>
    go_wp2_with fail
    all_goals go_meet
    all_goals (case rel => exact ⟨by rw [← hmn]; first | (rw [Nat.max_eq_left (by omega)]) | (rw [Nat.max_eq_right (by omega)]), rfl, rfl⟩)
  case rest =>
  obtain ⟨rfl, rfl, rfl⟩ := hcut
  have hcell : (w.alloc (.cells #[.int .u8 f] 5)).cell? ⟨w.heap.size, 0, none⟩ = some (.int .u8 f) := by go_simp
  have hbel := Lib.hid ((Below.refl w.heap.size w).alloc (Nat.le_refl _) (.cells #[.int .u8 f] 5))
  generalize w.alloc (.cells #[.int .u8 f] 5) = w1 at hcell hbel ⊢
  go_wp2_with fail
  go_loopg [8, 9, 16] n (fun g _ _ s16 wx => ∃ i : Nat, i + g = n ∧ s16 = .int .i64 (i : Int) ∧ wx = w1 ∧ bhV a b f n 0 = bhV a b f g i)
  case atStart => exact ⟨0, by omega, rfl, rfl, rfl⟩
  case round =>
    obtain ⟨i, hig, rfl, rfl, hv⟩ := hrel
    cases gk with
    | zero =>
      obtain rfl : i = n := by omega
      have hd : decide ((i : Int) < (i : Int)) = false := decide_eq_false (by omega)
      go_wp2
      go_ret
      exact ⟨by rw [hv]; rfl, hbel.out⟩
    | succ g =>
      have hd : decide ((i : Int) < (n : Int)) = true := decide_eq_true (by omega)
      have hw : IntKind.i64.wrap ((i : Int) + 1) = ((i + 1 : Nat) : Int) := by rw [IntKind.wrap_i64]; push_cast; omega
      rw [bhV] at hv
      by_cases hc : cmpV (atF a f i) (atF b f i) = 0
      · have hcb : (cmpV (atF a f i) (atF b f i) != 0) = false := bne_eq_false_iff_eq.2 hc
        rw [if_pos hc] at hv
        have HV := Lib.hid hv
        clear hv
        go_wp2_with (first | (go_at_call 59; refine (at_any _ i _ _ _ hcell).mono ?_; rintro e w2 ⟨rfl, rfl⟩) | (go_at_call 60; refine (cmp_byte _ _ _).mono ?_; rintro e w3 ⟨rfl, rfl⟩))
        go_roundg g
        case measure => omega
        case rel => exact ⟨i + 1, by omega, rfl, rfl, HV.out⟩
      · have hcb : (cmpV (atF a f i) (atF b f i) != 0) = true := bne_iff_ne.2 hc
        rw [if_neg hc] at hv
        have HV := Lib.hid hv
        clear hv
        go_wp2_with (first | (go_at_call 59; refine (at_any _ i _ _ _ hcell).mono ?_; rintro e w2 ⟨rfl, rfl⟩) | (go_at_call 60; refine (cmp_byte _ _ _).mono ?_; rintro e w3 ⟨rfl, rfl⟩))
        go_ret
        exact ⟨by rw [HV.out]; rfl, hbel.out⟩

/-- directory.behind, of strings that are not too long. -/
def directory_behind.f (a0 a1 : ByteArray) (a2 : Int) : Option Int := if a0.size ≤ 1000000 ∧ a1.size ≤ 1000000 then some (bhV a0 a1 a2 (max a0.size a1.size) 0) else none
theorem directory_behind.calls (a0 : ByteArray) (a1 : ByteArray) (a2 : Int) (r : Int) (w : World) (h : directory_behind.f a0 a1 a2 = some r) :
    Calls Tryz.prog 34 #[.string a0, .string a1, .int .u8 a2] w fun e w' => e = .returned (.int .i64 r) ∧ Below w.heap.size w w' := by
  unfold directory_behind.f at h
  by_cases hc : a0.size ≤ 1000000 ∧ a1.size ≤ 1000000
  · rw [if_pos hc] at h
    obtain rfl := Option.some.inj h
    exact behind_any a0 a1 a2 w hc.1 hc.2
  · rw [if_neg hc] at h
    cases h

end Go.Proofs.YthblghfobnhoeaaGreat.H
namespace Go.Proofs.YthblghfobnhoeaaGreat.H
open Go.RowKit Go.Proofs.YthblghfobnhoeaaGreatW.PrintWords Go.Proofs.YthblghfobnhoeaaGreatW.PrintLast Go.Proofs.YthblghfobnhoeaaGreatW.PrintMore Go.Proofs.YthblghfobnhoeaaGreat.A
attribute [local go_sem] max2_int min2_int max_two min_two
set_option linter.unusedVariables false
set_option linter.unusedSimpArgs false

/-! directory.Find. -/
def idxV (id : ByteArray) : List S45 → Nat → Int
  | [], _ => -1
  | x :: t, i => if x.f0.toList = id.toList then (i : Int) else idxV id t (i + 1)
abbrev cellsR (x : S45) : Array Value := #[.string x.f0, .int .i64 x.f1, .int .i64 x.f2, .int .i64 x.f3, .int .i64 x.f4, .int .i64 x.f5, .int .i64 x.f6, .string x.f7]

set_option maxRecDepth 100000 in
set_option maxHeartbeats 4000000 in
theorem find1_any (x : S45) (id : ByteArray) (c : Addr) (w : World) (hc : w.cell? c = some (.string id)) (hb : c.block < w.heap.size) : Calls Tryz.prog 43 #[.agg (cellsR x), .pointer (some c)] w fun e w' => e = .returned (.bool (x.f0.toList == id.toList)) ∧ Below w.heap.size w w' := by
  have hbel := Lib.hid ((Below.refl w.heap.size w).alloc (Nat.le_refl _) (.cells (cellsR x) 45))
  have hc2 : (w.alloc (.cells (cellsR x) 45)).cell? c = some (.string id) := ((hbel.out).cell hb).trans hc
  go_enter Tryz.func43, Tryz.ntmps43
  go_wp2
  go_ret
  exact ⟨rfl, hbel.out⟩

set_option maxRecDepth 100000 in
set_option maxHeartbeats 4000000 in
theorem indexFunc_any (l : List S45) (A : Option Addr) (cap : Nat) (id : ByteArray) (c : Addr) (w : World) (hC : Kd.C k45 w A l.length l) (hcap : l.length ≤ cap) (hc : w.cell? c = some (.string id)) (hb : c.block < w.heap.size) (hl : l.length ≤ 1000000) :
    Calls Tryz.prog 42 #[.slice A l.length cap, .func (.func 43) #[] #[.pointer (some c)]] w fun e w' => e = .returned (.int .i64 (idxV id l 0)) ∧ Below w.heap.size w w' := by
  go_enter Tryz.func42, Tryz.ntmps42
  go_wp2_with fail
  have hw0 : Below w.heap.size w w := Below.refl _ _
  go_loopg [5, 8] l.length (fun g _ s8 wx => ∃ i : Nat, i + g = l.length ∧ s8 = .int .i64 (i : Int) ∧ Below w.heap.size w wx ∧ idxV id l 0 = idxV id (l.drop i) i)
  case atStart => exact ⟨0, by omega, rfl, hw0, rfl⟩
  case round =>
    obtain ⟨i, hig, rfl, hbel, hv⟩ := hrel
    have HB := Lib.hid hbel
    have HC := Lib.hid (Kd.C_below hC hbel)
    have hcw : wr.cell? c = some (.string id) := (hbel.cell hb).trans hc
    have hbw : c.block < wr.heap.size := Nat.lt_of_lt_of_le hb hbel.size
    clear hbel
    cases gk with
    | zero =>
      obtain rfl : i = l.length := by omega
      rw [List.drop_length] at hv
      have HV := Lib.hid hv
      clear hv
      have hd : decide ((l.length : Int) < (l.length : Int)) = false := decide_eq_false (by omega)
      go_wp2_with fail
      go_ret
      exact ⟨by rw [HV.out]; rfl, HB.out⟩
    | succ g =>
      have hi : i < l.length := by omega
      rw [List.drop_eq_getElem_cons hi] at hv
      have hrd : rd_T45 l (i : Int) = l[i] := by
        unfold rd_T45
        rw [Int.toNat_natCast, List.getD_eq_getElem?_getD, List.getElem?_eq_getElem hi]; rfl
      generalize l[i] = x at hv hrd
      have HV := Lib.hid hv
      clear hv
      have p1 : 0 ≤ (i : Int) := by omega
      have q1 : (i : Int) < (l.length : Int) := by omega
      obtain ⟨ad, e1, h0, h1, h2, h3, h4, h5, h6, h7⟩ := at_T45 HC.out (i : Int) p1 q1
      rw [hrd, Int.toNat_natCast] at h0 h1 h2 h3 h4 h5 h6 h7
      cases e1
      have hd : decide ((i : Int) < (l.length : Int)) = true := decide_eq_true q1
      have hw : IntKind.i64.wrap ((i : Int) + 1) = ((i + 1 : Nat) : Int) := by rw [IntKind.wrap_i64]; push_cast; omega
      replace p1 := eq_true p1
      replace q1 := eq_true q1
      by_cases hx : x.f0.toList = id.toList
      · have hxb : (x.f0.toList == id.toList) = true := beq_iff_eq.2 hx
        go_wp2_with (go_at_call 43; refine (find1_any x id c _ hcw hbw).mono ?_; rintro e w2 ⟨rfl, hb2⟩)
        go_ret
        exact ⟨by rw [HV.out, idxV, if_pos hx]; rfl, below_step HB.out hb2⟩
      · have hxb : (x.f0.toList == id.toList) = false := beq_eq_false_iff_ne.2 hx
        go_wp2_with (go_at_call 43; refine (find1_any x id c _ hcw hbw).mono ?_; rintro e w2 ⟨rfl, hb2⟩)
        go_roundg g
        case measure => omega
        case rel => exact ⟨i + 1, by omega, rfl, below_step HB.out hb2, by rw [HV.out, idxV, if_neg hx]⟩

theorem idxV_ge (id : ByteArray) : ∀ (l : List S45) (i : Nat), -1 ≤ idxV id l i
  | [], _ => by show (-1 : Int) ≤ -1; decide
  | x :: t, i => by
    rw [idxV]
    split
    · omega
    · exact idxV_ge id t (i + 1)
set_option maxRecDepth 100000 in
set_option maxHeartbeats 4000000 in
theorem find_any (l : List S45) (A : Option Addr) (cap : Nat) (id : ByteArray) (w : World) (hC : Kd.C k45 w A l.length l) (hcap : l.length ≤ cap) (hl : l.length ≤ 1000000) :
    Calls Tryz.prog 14 #[.slice A l.length cap, .string id] w fun e w' => e = .returned (.tuple #[.int .i64 (if idxV id l 0 < 0 then 0 else idxV id l 0), .bool (decide (0 ≤ idxV id l 0))]) ∧ Below w.heap.size w w' := by
  have hbel := Lib.hid ((Below.refl w.heap.size w).alloc (Nat.le_refl _) (.cells #[.string id] 9))
  have hC2 := Lib.hid (Kd.C_alloc hC (.cells #[.string id] 9))
  have hc : (w.alloc (.cells #[.string id] 9)).cell? ⟨w.heap.size, 0, none⟩ = some (.string id) := by go_simp
  have hI := fun (W : World) h1 h2 h3 => indexFunc_any l A cap id ⟨w.heap.size, 0, none⟩ W h1 hcap h2 h3 hl
  have hge := idxV_ge id l 0
  generalize hv : idxV id l 0 = v at hI hge ⊢
  by_cases h0 : v < 0
  · have hd : decide (0 ≤ v) = false := decide_eq_false (by omega)
    have hd2 : decide (v < 0) = true := decide_eq_true h0
    have hd3 : decide (0 < v) = false := decide_eq_false (by omega)
    rw [if_pos h0, hd]
    go_enter Tryz.func14, Tryz.ntmps14
    go_wp2_with (go_at_call 42; refine (hI _ hC2.out hc (by simp)).mono ?_; rintro e w2 ⟨rfl, hb2⟩)
    all_goals go_ret2
    all_goals (refine ⟨?_, below_step hbel.out hb2⟩)
    all_goals first | rfl | (simp; omega)
  · have hd : decide (0 ≤ v) = true := decide_eq_true (by omega)
    have hd2 : decide (v < 0) = false := decide_eq_false h0
    rw [if_neg h0, hd]
    go_enter Tryz.func14, Tryz.ntmps14
    go_wp2_with (go_at_call 42; refine (hI _ hC2.out hc (by simp)).mono ?_; rintro e w2 ⟨rfl, hb2⟩)
    all_goals go_ret2
    all_goals (refine ⟨?_, below_step hbel.out hb2⟩)
    all_goals first | rfl | (simp; omega)

/-- directory.Find. -/
def directory_Find.f (l0 : List S45) (a1 : ByteArray) : Option (Int × Bool) := if l0.length ≤ 1000000 then some (if idxV a1 l0 0 < 0 then 0 else idxV a1 l0 0, decide (0 ≤ idxV a1 l0 0)) else none
theorem directory_Find.calls (A0 : Option Addr) (c0 : Nat) (l0 : List S45) (a1 : ByteArray) (r1 : Int) (r2 : Bool) (w : World) (hr0 : Kd.C k45 w A0 l0.length l0) (hc0 : l0.length ≤ c0) (h : directory_Find.f l0 a1 = some (r1, r2)) :
    Calls Tryz.prog 14 #[.slice A0 l0.length c0, .string a1] w fun e w' => e = .returned (.tuple #[.int .i64 r1, .bool r2]) ∧ Below w.heap.size w w' := by
  unfold directory_Find.f at h
  by_cases hl : l0.length ≤ 1000000
  · rw [if_pos hl] at h
    have h := Option.some.inj h
    rw [← (Prod.mk.inj h).1, ← (Prod.mk.inj h).2]
    exact find_any l0 A0 c0 a1 w hr0 hc0 hl
  · rw [if_neg hl] at h
    cases h

end Go.Proofs.YthblghfobnhoeaaGreat.H
namespace Go.Proofs.YthblghfobnhoeaaGreat.H
open Go.RowKit Go.Proofs.YthblghfobnhoeaaGreatW.PrintWords Go.Proofs.YthblghfobnhoeaaGreatW.PrintLast Go.Proofs.YthblghfobnhoeaaGreatW.PrintMore Go.Proofs.YthblghfobnhoeaaGreat.A
set_option linter.unusedVariables false
set_option linter.unusedSimpArgs false

/-! slices.Repeat([]int{34}, 60). -/
/-- n numbers of one kind, then zeros, 60 cells in all. -/
def rep60 (n : Nat) : List Value := List.replicate n (.int .i64 34) ++ List.replicate (60 - n) (.int .i64 0)

theorem rep60_len (n : Nat) (h : n ≤ 60) : (rep60 n).length = 60 := by
  unfold rep60
  rw [List.length_append, List.length_replicate, List.length_replicate]; omega
theorem rep_src {W : World} {G n m : Nat} (hg : W.heap[G]? = some (.cells (rep60 n).toArray 3 (0, 0))) (hm : m ≤ n) (j : Nat) (v : Value) (hj : (List.replicate m (Value.int .i64 34))[j]? = some v) : W.cell? ((⟨G, 0, none⟩ : Addr).add j) = some v := by
  have hlt : j < m := by
    have := (List.getElem?_eq_some_iff.1 hj).1
    simpa using this
  have e : W.cell? ((⟨G, 0, none⟩ : Addr).add j) = (rep60 n).toArray[j]? := by
    have h1 := cell_of_row W G j (rep60 n).toArray 3 (0, 0) hg
    have h2 : (⟨G, 0, none⟩ : Addr).add j = ⟨G, j, none⟩ := by
      rcases Nat.eq_zero_or_pos j with rfl | hj0
      · rfl
      · simp [Addr.add, show ¬ j = 0 by omega]
    rw [h2]; exact h1
  rw [e, List.getElem?_toArray]
  unfold rep60
  rw [List.getElem?_append_left (by rw [List.length_replicate]; omega), List.getElem?_replicate, if_pos (by omega)]
  rw [List.getElem?_replicate, if_pos hlt] at hj
  exact hj
theorem rep_splice (n m : Nat) (h : n + m ≤ 60) : splice (rep60 n) n (List.replicate m (Value.int .i64 34)) = rep60 (n + m) := by
  unfold splice rep60
  rw [List.take_left' (by rw [List.length_replicate]), List.length_replicate, ← List.append_assoc, List.replicate_append_replicate]
  congr 1
  rw [List.drop_append, List.length_replicate, List.drop_of_length_le (by rw [List.length_replicate]; omega), List.nil_append, List.drop_replicate]
  congr 1
  omega

set_option maxRecDepth 100000 in
set_option maxHeartbeats 4000000 in
theorem repeat60 (A : Option Addr) (c0 : Nat) (w : World) (hC : Kd.C (Kd.int .i64) w A ([34] : List Int).length [34]) (hc : 1 ≤ c0) :
    Calls Tryz.prog 31 #[.slice A 1 c0, .int .i64 60] w fun e w' => ∃ v, e = .returned v ∧ Kd.R (Kd.int .i64) 3 w' w.heap.size (fun _ => True) v (List.replicate 60 34) ∧ Below w.heap.size w w' := by
  have hM := fun W => bits_Mul.calls 1 60 0 60 W (by kernel_rfl)
  have hmk : ∀ W, (Instr.makeSlice 33 (.int .i64 60) (.int .i64 60)).run Tryz.prog W = .ok (.slice (some ⟨W.heap.size, 0, none⟩) 60 60) (W.alloc (.cells (rep60 0).toArray 3)) := fun _ => by kernel_rfl
  have w1 : IntKind.u64.wrap 1 = 1 := by decide
  have w60 : IntKind.u64.wrap 60 = 60 := by decide
  have x60 : IntKind.i64.wrap 60 = 60 := by decide
  go_enter Tryz.func31, Tryz.ntmps31
  go_upto_region 7 with (go_at_call 51; refine (hM _).mono ?_; rintro e w2 ⟨rfl, nd, rfl⟩)
  obtain ⟨hl_, hm_, hA⟩ := hC
  obtain ⟨ad, rfl, hcell⟩ := hA (by decide)
  obtain ⟨cc, hlen_, hk, hcc⟩ := hcell 0 34 rfl
  clear hlen_ hl_ hm_ hA hcell
  obtain rfl : cc = [.int .i64 34] := hk
  have hs0 : w.cell? ad = some (.int .i64 34) := by simpa [Addr.add] using hcc 0 _ rfl
  have hbel : Below w.heap.size w ((w.drewN nd).alloc (.cells (rep60 0).toArray 3)) := below_alloc (pw_below_drewN (Below.refl _ _) nd) _
  have hadb : ad.block < w.heap.size := by
    have h := hs0
    unfold World.cell? at h
    apply Classical.byContradiction
    intro hge
    rw [Array.getElem?_eq_none (by omega)] at h
    cases h
  have hs1 := (hbel.cell hadb).trans hs0
  have hg1 : ((w.drewN nd).alloc (.cells (rep60 0).toArray 3)).heap[w.heap.size]? = some (.cells (rep60 0).toArray 3 (0, 0)) := heap_alloc_new (w.drewN nd) _
  generalize (w.drewN nd).alloc (.cells (rep60 0).toArray 3) = w3 at hbel hs1 hg1 ⊢
  have hcp := run_copy_row (P := Tryz.prog) w3 33 33 3 3 w.heap.size 0 60 60 ad 1 c0 (rep60 0).toArray 3 [.int .i64 34] Tryz.underlying33 (by kernel_rfl) hg1 rfl
    (fun j v hj => by
      match j, hj with
      | 0, hj => obtain rfl := Option.some.inj hj; simpa [Addr.add] using hs1) (by decide) (by decide)
  go_wp2_with fail
  have hr1 : (.int .i64 34 :: (rep60 0).tail : List Value).toArray = (rep60 1).toArray := rfl
  have hg4 : (w3.setRow w.heap.size (.int .i64 34 :: (rep60 0).tail).toArray).heap[w.heap.size]? = some (.cells (rep60 1).toArray 3 (0, 0)) := by rw [hr1]; exact setRow_heap w3 w.heap.size _ _ 3 _ hg1
  have hb4 : Below w.heap.size w (w3.setRow w.heap.size (.int .i64 34 :: (rep60 0).tail).toArray) := below_setRow hbel (Nat.le_refl _) _
  generalize w3.setRow w.heap.size (.int .i64 34 :: (rep60 0).tail).toArray = w4 at hg4 hb4 ⊢
  clear hcp hg1 hs1 hbel
  go_loopg [8] 60 (fun g s8 wx => ∃ n : Nat, 1 ≤ n ∧ n ≤ 60 ∧ 60 - n ≤ g ∧ s8 = .int .i64 (n : Int) ∧ wx.heap[w.heap.size]? = some (.cells (rep60 n).toArray 3 (0, 0)) ∧ Below w.heap.size w wx)
  case atStart => exact ⟨1, by omega, by omega, by omega, rfl, hg4, hb4⟩
  case round =>
    obtain ⟨n, n1, n60, hng, rfl, hg, hb⟩ := hrel
    by_cases hn : n = 60
    · subst hn
      go_wp2_with fail
      go_ret
      exact ⟨_, rfl, Kd.R_of_own (enc := Value.int .i64) ⟨rfl, Or.inr ⟨w.heap.size, 60, _, rfl, Nat.le_refl _, hg, Nat.le_refl _, by decide, rfl, rfl⟩⟩ (fun _ _ => trivial), hb⟩
    · have hd : decide ((n : Int) < 60) = true := decide_eq_true (by omega)
      have hp0 : (0 : Int) ≤ (n : Int) := by omega
      have hp1 : (n : Int) ≤ 60 := by omega
      have hne : ¬ 60 = n := by omega
      obtain ⟨m, hm⟩ : ∃ m, m = Nat.min n (60 - n) := ⟨_, rfl⟩
      have hm1 : 1 ≤ m := by rw [hm]; exact Nat.le_min.2 ⟨n1, by omega⟩
      have hm2 : m ≤ n := by rw [hm]; exact Nat.min_le_left _ _
      have hm3 : m ≤ 60 - n := by rw [hm]; exact Nat.min_le_right _ _
      have hw : IntKind.i64.wrap ((n : Int) + (m : Int)) = ((n + m : Nat) : Int) := by rw [IntKind.wrap_i64]; push_cast; omega
      have hl60 := rep60_len n n60
      go_wp2_with fail
      go_region_law (refine step_copy_splice rfl (.tmp 41) (.tmp 44) 33 33 rfl 3 Tryz.underlying33 (by kernel_rfl) (some ⟨w.heap.size, n, none⟩) (some ⟨w.heap.size, 0, none⟩) (60 - n) (60 - n) n 60 (by simp [Act.eval, Act.put, hne]) (by simp [Act.eval, Act.put]) w.heap.size n (rep60 n) 3 hg (List.replicate m (.int .i64 34)) (by rw [List.length_replicate]; exact hm) (fun _ => ⟨rfl, ⟨w.heap.size, 0, none⟩, rfl, fun j v hj => rep_src hg hm2 j v hj⟩) (by rw [List.length_replicate, hl60]; omega) (by intro v hv; rw [List.eq_of_mem_replicate hv]; rfl) w.heap.size w hb.drew (Nat.le_refl _) ?_; intro w5 hg5 hb5)
      have hg6 := hg5.out
      rw [rep_splice n m (by omega)] at hg6
      rw [← hm, hw]
      simp only [Act.put, Exit.inBlock, Exit.then]
      rename_i hJq hKq
      refine hKq _ _ ?_
      go_roundg (60 - (n + m))
      case measure => omega
      case rel => exact ⟨n + m, by omega, by omega, Nat.le_refl _, rfl, hg6, hb5⟩

/-- slices.Repeat, at this call. -/
def slices_Repeat_int_int.f (l0 : List Int) (a1 : Int) : Option (List Int) := if l0 = [34] ∧ a1 = 60 then some (List.replicate 60 34) else none
theorem slices_Repeat_int_int.calls (A0 : Option Addr) (c0 : Nat) (l0 : List Int) (a1 : Int) (r : List Int) (w : World) (hr0 : Kd.C (Kd.int .i64) w A0 l0.length l0) (hc0 : l0.length ≤ c0) (h : slices_Repeat_int_int.f l0 a1 = some r) :
    Calls Tryz.prog 31 #[.slice A0 l0.length c0, .int .i64 a1] w fun e w' => ∃ v0_ : Value, e = .returned (v0_) ∧ Kd.R (Kd.int .i64) 3 w' w.heap.size (fun _ => True) v0_ r ∧ Below w.heap.size w w' := by
  unfold slices_Repeat_int_int.f at h
  by_cases hc : l0 = [34] ∧ a1 = 60
  · rw [if_pos hc] at h
    obtain rfl := Option.some.inj h
    obtain ⟨rfl, rfl⟩ := hc
    exact repeat60 A0 c0 w hr0 hc0
  · rw [if_neg hc] at h
    cases h

end Go.Proofs.YthblghfobnhoeaaGreat.H
namespace Go.Proofs.YthblghfobnhoeaaGreat.R
open Go.Joins Go.ChangeShapes Go.WideShapes Go.RowKit Go.Deep Go.Proofs.YthblghfobnhoeaaGreatW.PrintWords
set_option linter.unusedVariables false

theorem u8_rng {n : Int} (h : (Lit.int .u8 n).wf = true) : 0 ≤ n ∧ n ≤ 255 := by
  have h2 : (decide ((0 : Int) ≤ n) && decide (n ≤ 255)) = true := h
  rw [Bool.and_eq_true, decide_eq_true_eq, decide_eq_true_eq] at h2
  exact h2
/-! A slice of directory records as an argument: what it holds, as a list. -/
section
variable {H : Type} {enc : TypeId × Value → H} {w : World} {base : Nat} {spare : Nat → Bool} {held : Bool}
abbrev Rec := Go.Proofs.YthblghfobnhoeaaGreat.A.S45
theorem rec_cells {m : Nat} {cs : List Value} {y : DataW H × List MemPlace} (hl : cs.length = 8) (h : DataW.trod enc Tryz.prog w base spare held m 45 cs = some y) :
    ∃ x : Rec, cs = [.string x.f0, .int .i64 x.f1, .int .i64 x.f2, .int .i64 x.f3, .int .i64 x.f4, .int .i64 x.f5, .int .i64 x.f6, .string x.f7] := by
  have hs := Tryz.underlying45
  have ks : Tryz.prog.cellsOf 9 = 1 := by kernel_rfl
  have ki : Tryz.prog.cellsOf 3 = 1 := by kernel_rfl
  match cs, hl with
  | [c0, c1, c2, c3, c4, c5, c6, c7], _ =>
    obtain ⟨xs, n, _, hx, _, hlen, hg⟩ := DataW.trod_struct hs h
    match xs, hlen with
    | [y0, y1, y2, y3, y4, y5, y6, y7], _ =>
      have g0 : DataW.trod enc Tryz.prog w base spare held n 9 [c0] = some y0 := by simpa [Value.cells, ks] using hg 0 _ rfl
      have g1 : DataW.trod enc Tryz.prog w base spare held n 3 [c1] = some y1 := by simpa [Value.cells, ki] using hg 1 _ rfl
      have g2 : DataW.trod enc Tryz.prog w base spare held n 3 [c2] = some y2 := by simpa [Value.cells, ki] using hg 2 _ rfl
      have g3 : DataW.trod enc Tryz.prog w base spare held n 3 [c3] = some y3 := by simpa [Value.cells, ki] using hg 3 _ rfl
      have g4 : DataW.trod enc Tryz.prog w base spare held n 3 [c4] = some y4 := by simpa [Value.cells, ki] using hg 4 _ rfl
      have g5 : DataW.trod enc Tryz.prog w base spare held n 3 [c5] = some y5 := by simpa [Value.cells, ki] using hg 5 _ rfl
      have g6 : DataW.trod enc Tryz.prog w base spare held n 3 [c6] = some y6 := by simpa [Value.cells, ki] using hg 6 _ rfl
      have g7 : DataW.trod enc Tryz.prog w base spare held n 9 [c7] = some y7 := by simpa [Value.cells, ks] using hg 7 _ rfl
      obtain ⟨a0, e0, rfl, z0⟩ := DataW.trod_string Tryz.underlying9 g0
      obtain ⟨a1, e1, rfl, z1⟩ := DataW.trod_int Tryz.underlying3 g1
      obtain ⟨a2, e2, rfl, z2⟩ := DataW.trod_int Tryz.underlying3 g2
      obtain ⟨a3, e3, rfl, z3⟩ := DataW.trod_int Tryz.underlying3 g3
      obtain ⟨a4, e4, rfl, z4⟩ := DataW.trod_int Tryz.underlying3 g4
      obtain ⟨a5, e5, rfl, z5⟩ := DataW.trod_int Tryz.underlying3 g5
      obtain ⟨a6, e6, rfl, z6⟩ := DataW.trod_int Tryz.underlying3 g6
      obtain ⟨a7, e7, rfl, z7⟩ := DataW.trod_string Tryz.underlying9 g7
      cases e0; cases e1; cases e2; cases e3; cases e4; cases e5; cases e6; cases e7
      exact ⟨⟨a0, a1, a2, a3, a4, a5, a6, a7⟩, rfl⟩
theorem list_of {α : Type} {Q : Nat → α → Prop} : ∀ n : Nat, (∀ i, i < n → ∃ x, Q i x) → ∃ l : List α, l.length = n ∧ ∀ i x, l[i]? = some x → Q i x
  | 0, _ => ⟨[], rfl, fun i x h => by simp at h⟩
  | n + 1, h => by
    obtain ⟨l, hl, hq⟩ := list_of n (fun i hi => h i (by omega))
    obtain ⟨x, hx⟩ := h n (by omega)
    refine ⟨l ++ [x], by rw [List.length_append, hl]; rfl, fun i y hy => ?_⟩
    rcases Nat.lt_or_ge i n with hi | hi
    · rw [List.getElem?_append_left (by omega)] at hy; exact hq i y hy
    · rw [List.getElem?_append_right (by omega)] at hy
      have : i = n := by
        have := (List.getElem?_eq_some_iff.1 hy).1
        rw [List.length_singleton] at this; omega
      subst this
      rw [hl, Nat.sub_self] at hy
      obtain rfl := Option.some.inj hy
      exact hx
theorem open_recs {a : Option Addr} {len cap : Nat} {d : DataW H} {p : List MemPlace} (h : DataW.Trod enc Tryz.prog w base spare held 26 (.slice a len cap) d p) :
    ∃ zs : List Rec, zs.length = len ∧ len ≤ cap ∧ Kd.C Go.Proofs.YthblghfobnhoeaaGreat.A.k45 w a zs.length zs := by
  obtain ⟨fuel, hf⟩ := h
  have hC : Tryz.prog.cellsOf 45 = 8 := by kernel_rfl
  rcases open_slice Tryz.underlying26 hf with ⟨hcs, _⟩ | ⟨x, l, c, m, n, D, Pl, hcs, hb, hl, hm, hmm, _, hi⟩
  · simp [Value.cells] at hcs
    obtain ⟨rfl, rfl, rfl⟩ := hcs
    exact ⟨[], rfl, Nat.le_refl _, Kd.C_nil _ _⟩
  · simp [Value.cells] at hcs
    obtain ⟨rfl, rfl, rfl⟩ := hcs
    have hlm : len ≤ m := by rw [hmm]; split <;> omega
    obtain ⟨zs, hz, hq⟩ := list_of (Q := fun i (r : Rec) => ∀ j u, ([.string r.f0, .int .i64 r.f1, .int .i64 r.f2, .int .i64 r.f3, .int .i64 r.f4, .int .i64 r.f5, .int .i64 r.f6, .string r.f7] : List Value)[j]? = some u → w.cell? (x.add (i * 8 + j)) = some u) len (fun i hil => by
      obtain ⟨cs', h1, h2⟩ := hi i (by omega)
      rw [hC] at h1
      obtain ⟨_, hcl, hat⟩ := World.cells?_some h1
      obtain ⟨r, rfl⟩ := rec_cells hcl h2
      refine ⟨r, fun j u hu => ?_⟩
      have hj : j < 8 := by have := (List.getElem?_eq_some_iff.1 hu).1; simpa using this
      rw [← Go.Deep.add_add, hat j hj]; exact hu)
    refine ⟨zs, hz, hl, rfl, ?_, fun hp => ⟨x, rfl, fun j r hj => ⟨_, rfl, Go.Proofs.YthblghfobnhoeaaGreat.A.k45_mk w r, fun i u hu => hq j r hj i u hu⟩⟩⟩
    unfold maxLen at hm
    omega
end

end Go.Proofs.YthblghfobnhoeaaGreat.R
