import Derived.Test.YthblghfobnhoeaaGreatKe7e6dfb4
import Derived.Shelf.Strings.Builder1
import Derived.Shelf.Strings.BuilderK
import Derived.Lib.Hide
import Derived.Deep.RegionHeld3
import Derived.WalkSmall
import Derived.LoopN
import Derived.Test.YthblghfobnhoeaaGreatKde8733b9
import Derived.Laws.RangeAny
import Derived.Laws.Runes
import Derived.Deep.Cut
import Derived.Lib.OthersKept
import Derived.Deep.LoopGhost
import Derived.Deep.WholeRow
namespace Go.Proofs.YthblghfobnhoeaaGreat.A
open Go.RowKit Go.Proofs.YthblghfobnhoeaaGreat.H Go.Proofs.YthblghfobnhoeaaGreatW.PrintWords Go.Proofs.YthblghfobnhoeaaGreatW.PrintLast Go.Proofs.YthblghfobnhoeaaGreatW.PrintMore
attribute [local go_sem] max2_int min2_int max_two min_two max_three min_three max_four min_four   -- for this text's walks alone
set_option linter.unusedVariables false
set_option linter.unusedSimpArgs false

/-! ### datetime_valid: function 126 -/
def datetime_valid.j0 : Nat → Bool → Int → Int → Int → Int → Int → Int → Option (Bool)
 | 0, _, _, _, _, _, _, _ => none
 | k + 1, x21, x180000, x180001, x180002, x180003, x180004, x180005 => if x21 = true then (some false) else (if x180002 ≥ 1 then ((datetime_monthDays.f x180000 x180001).bind fun t180 => (if x180002 ≤ t180 then ((datetime_valid_1.f x180003 23).bind fun t181 => (if t181 = true then ((datetime_valid_1.f x180004 59).bind fun t182 => (if t182 = true then ((datetime_valid_1.f x180005 59).bind fun t183 => (some t183)) else (some false))) else (some false))) else (some false))) else (some false))
def datetime_valid.f (k : Nat) (a0_0 : Int) (a0_1 : Int) (a0_2 : Int) (a0_3 : Int) (a0_4 : Int) (a0_5 : Int) : Option (Bool) := if a0_0 < 1900 then (datetime_valid.j0 k true a0_0 a0_1 a0_2 a0_3 a0_4 a0_5) else (if a0_0 > 2155 then (datetime_valid.j0 k true a0_0 a0_1 a0_2 a0_3 a0_4 a0_5) else (if a0_1 < 1 then (datetime_valid.j0 k true a0_0 a0_1 a0_2 a0_3 a0_4 a0_5) else (datetime_valid.j0 k (decide (a0_1 > 12)) a0_0 a0_1 a0_2 a0_3 a0_4 a0_5)))
theorem datetime_valid.mono_l : ∀ k, (∀ y0 y1 y2 y3 y4 y5 y6, LeO (datetime_valid.j0 k y0 y1 y2 y3 y4 y5 y6) (datetime_valid.j0 (k + 1) y0 y1 y2 y3 y4 y5 y6))
 | 0 => fun _ _ _ _ _ _ _ r h => by simp [datetime_valid.j0] at h
 | k + 1 => by
  have ih0 := datetime_valid.mono_l k
  ·intro y0 y1 y2 y3 y4 y5 y6
   unfold datetime_valid.j0
   repeat' first
   | (with_reducible exact ih0 _ _ _ _ _ _ _)
   | (with_reducible exact LeO.refl _)
   | (with_reducible exact LeO.none _)
   | (with_reducible refine LeO.ite ?_ ?_)
   | (with_reducible refine LeO.bind ?_ (fun _ => ?_))
   | exact ih0 _ _ _ _ _ _ _
   | exact LeO.none _
   | refine LeO.ite ?_ ?_
   | refine LeO.bind ?_ (fun _ => ?_)
theorem datetime_valid.mono : ∀ a0 a1 a2 a3 a4 a5 k, LeO (datetime_valid.f k a0 a1 a2 a3 a4 a5) (datetime_valid.f (k + 1) a0 a1 a2 a3 a4 a5) := by
 intro a0 a1 a2 a3 a4 a5 k
 have ih0 := datetime_valid.mono_l k
 unfold datetime_valid.f
 repeat' first
   | (with_reducible exact ih0 _ _ _ _ _ _ _)
   | (with_reducible exact LeO.refl _)
   | (with_reducible exact LeO.none _)
   | (with_reducible refine LeO.ite ?_ ?_)
   | (with_reducible refine LeO.bind ?_ (fun _ => ?_))
   | exact ih0 _ _ _ _ _ _ _
   | exact LeO.none _
   | refine LeO.ite ?_ ?_
   | refine LeO.bind ?_ (fun _ => ?_)
def datetime_valid.T4 : Bool × List (List Nat × List Nat) := (true, [([], []), ([0], [0]), ([1], [1]), ([2], [2]), ([3], [3]), ([4, 3], [3, 4]), ([3], [3]), ([6, 3], [3, 6]), ([3], [3]), ([8, 3], [3, 8]), ([7, 9, 3, 3], [3, 7, 9]), ([5, 10, 3], [3, 5, 10]), ([3, 11], [3, 11]), ([12, 10], [12]), ([13], [13]), ([13], [13]), ([15, 13], [13, 15]), ([14, 16, 13, 13], [13, 14, 16]), ([13, 17], [13, 17]), ([18, 17], [18]), ([19], [19]), ([19], [19]), ([21, 19], [19, 21]), ([20, 22, 19, 19], [19, 20, 22]), ([19, 23], [19, 23]), ([24, 23], [24]), ([25], [25]), ([25], [25]), ([27, 25], [25, 27]), ([26, 28, 25, 25], [25, 26, 28]), ([25, 29], [25, 29]), ([30, 29, 0, 1, 2, 3, 4, 5, 6, 7, 8, 9, 10, 11, 12, 13, 14, 15, 16, 17, 18, 19, 20, 21, 22, 23, 24, 25, 26, 27, 28, 29, 30], [30])])
def datetime_valid.B4 : List Nat := [0, 1, 3, 7, 15, 31, 15, 79, 15, 271, 975, 2047, 4095, 8191, 16383, 16383, 49151, 131071, 262143, 524287, 1048575, 1048575, 3145727, 8388607, 16777215, 33554431, 67108863, 67108863, 201326591, 536870911, 1073741823, 2147483647]
theorem datetime_valid.tab4 : rtab .any (opsOf Tryz.f126 4) = datetime_valid.T4 := by kernel_rfl
theorem datetime_valid.bits4 : waitsOk datetime_valid.T4.2 datetime_valid.B4 = true := by kernel_rfl
set_option maxHeartbeats 8000000 in
set_option maxRecDepth 100000 in
theorem datetime_valid.calls (k : Nat) (a0_0 : Int) (a0_1 : Int) (a0_2 : Int) (a0_3 : Int) (a0_4 : Int) (a0_5 : Int) (r : Bool) (w : World) (h : datetime_valid.f k a0_0 a0_1 a0_2 a0_3 a0_4 a0_5 = some r) :
  Calls Tryz.prog 126 #[.agg #[.int .i64 a0_0, .int .i64 a0_1, .int .i64 a0_2, .int .i64 a0_3, .int .i64 a0_4, .int .i64 a0_5]] w fun e w' => e = .returned (.bool r) ∧ Below w.heap.size w w' := by
 have hu119 := Tryz.underlying119
 have HB := Aside0.mk (Below.refl w.heap.size w)
 have H : (if a0_0 < 1900 then (datetime_valid.j0 k true a0_0 a0_1 a0_2 a0_3 a0_4 a0_5) else (if a0_0 > 2155 then (datetime_valid.j0 k true a0_0 a0_1 a0_2 a0_3 a0_4 a0_5) else (if a0_1 < 1 then (datetime_valid.j0 k true a0_0 a0_1 a0_2 a0_3 a0_4 a0_5) else (datetime_valid.j0 k (decide (a0_1 > 12)) a0_0 a0_1 a0_2 a0_3 a0_4 a0_5)))) = some r := h
 clear h
 have HC2 := Aside0.mk H
 clear H
 go_enter Tryz.func126, Tryz.ntmps126
 go_upto_region 1 with (first | ((with_reducible refine gate_dst (N := 1) rfl ?_); refine box_event ?hg (N := 1) ?hd (cs := #[.int .i64 a0_0, .int .i64 a0_1, .int .i64 a0_2, .int .i64 a0_3, .int .i64 a0_4, .int .i64 a0_5]) (t := 119) ?hr ?_; (case hd => rfl); (case hg => rfl); (case hr => first | (go_simp; done) | (go_simp; rfl)); intro gb179 hg w3 hbox hb; have n0_ := Aside0.mk (below_step (uB HB.out) hb); have n1_ := Aside0.mk (hbox); have n2_ := Aside0.mk ((by rw [hg]; exact (below_size (uB HB.out)) : w.heap.size ≤ gb179)); have n3_ := Aside0.mk ((by rw [hg]; exact (below_size (uB HB.out)) : w.heap.size ≤ gb179)); clear HB; have HB := n0_; have BK179 := n1_; have GW179 := n2_; have GE179 := n3_; clear n0_ n1_ n2_ n3_; clear hb hbox hg))
 (try simp only [Act.put, List.setIfInBounds_toArray, List.set_cons_zero, List.set_cons_succ])
 go_cut [21] (fun v21 wc => ∃ (kq : Nat) (x21_1 : Bool), v21 = .bool x21_1 ∧ Aside0 (datetime_valid.j0 kq x21_1 a0_0 a0_1 a0_2 a0_3 a0_4 a0_5 = some r) ∧ Aside0 (kq ≤ k) ∧ Aside0 (wc.heap[gb179]? = some (.cells #[.int .i64 a0_0, .int .i64 a0_1, .int .i64 a0_2, .int .i64 a0_3, .int .i64 a0_4, .int .i64 a0_5] 119 (0, 0))) ∧ Aside0 (Below w.heap.size w wc))
 case first =>
  have H := HC2.out
  clear HC2
  by_cases c4 : a0_0 < 1900
  ·rw [if_pos c4] at H
   have c4b0 : decide (a0_0 < 1900) = true := decide_eq_true c4
   clear c4
   (first | rw [c4b0] | (simp only [i64_w, i32_w]; rw [c4b0]) | skip)
   have H' := Aside0.mk H
   clear H
   have hcz5_0 : w3.cell? ⟨gb179, 0, none⟩ = some (.int .i64 a0_0) := (blk_cell BK179.out 0).trans rfl
   have hcz5_1 : w3.cell? ⟨gb179, 1, none⟩ = some (.int .i64 a0_1) := (blk_cell BK179.out 1).trans rfl
   have hcz5_2 : w3.cell? ⟨gb179, 2, none⟩ = some (.int .i64 a0_2) := (blk_cell BK179.out 2).trans rfl
   have hcz5_3 : w3.cell? ⟨gb179, 3, none⟩ = some (.int .i64 a0_3) := (blk_cell BK179.out 3).trans rfl
   have hcz5_4 : w3.cell? ⟨gb179, 4, none⟩ = some (.int .i64 a0_4) := (blk_cell BK179.out 4).trans rfl
   have hcz5_5 : w3.cell? ⟨gb179, 5, none⟩ = some (.int .i64 a0_5) := (blk_cell BK179.out 5).trans rfl
   have hfz5_0 := blk_frozen BK179.out 0
   have hfz5_1 := blk_frozen BK179.out 1
   have hfz5_2 := blk_frozen BK179.out 2
   have hfz5_3 := blk_frozen BK179.out 3
   have hfz5_4 := blk_frozen BK179.out 4
   have hfz5_5 := blk_frozen BK179.out 5
   go_wp2
   go_meet
   case rel => exact ⟨_, (true), (by first | rfl | (simp; done) | (simp [*]; done)), H', ⟨by first | omega | exact Nat.le_refl _⟩, ⟨by (with_reducible repeat (first | refine blk_drewN ?_ _ | refine blk_drew ?_ | refine blk_alloc ?_ _)); exact BK179.out⟩, ⟨by repeat (first | (with_reducible first | exact HB.out | apply below_alloc | apply pw_below_drewN | apply below_drew1 | refine below_set ?_ GE179.out) | exact HB.out)⟩⟩
  ·rw [if_neg c4] at H
   have c4b0 : decide (a0_0 < 1900) = false := decide_eq_false c4
   clear c4
   (first | rw [c4b0] | (simp only [i64_w, i32_w]; rw [c4b0]) | skip)
   by_cases c6 : a0_0 > 2155
   ·rw [if_pos c6] at H
    have c6b0 : decide (2155 < a0_0) = true := decide_eq_true c6
    clear c6
    have H' := Aside0.mk H
    clear H
    have hcz7_0 : w3.cell? ⟨gb179, 0, none⟩ = some (.int .i64 a0_0) := (blk_cell BK179.out 0).trans rfl
    have hcz7_1 : w3.cell? ⟨gb179, 1, none⟩ = some (.int .i64 a0_1) := (blk_cell BK179.out 1).trans rfl
    have hcz7_2 : w3.cell? ⟨gb179, 2, none⟩ = some (.int .i64 a0_2) := (blk_cell BK179.out 2).trans rfl
    have hcz7_3 : w3.cell? ⟨gb179, 3, none⟩ = some (.int .i64 a0_3) := (blk_cell BK179.out 3).trans rfl
    have hcz7_4 : w3.cell? ⟨gb179, 4, none⟩ = some (.int .i64 a0_4) := (blk_cell BK179.out 4).trans rfl
    have hcz7_5 : w3.cell? ⟨gb179, 5, none⟩ = some (.int .i64 a0_5) := (blk_cell BK179.out 5).trans rfl
    have hfz7_0 := blk_frozen BK179.out 0
    have hfz7_1 := blk_frozen BK179.out 1
    have hfz7_2 := blk_frozen BK179.out 2
    have hfz7_3 := blk_frozen BK179.out 3
    have hfz7_4 := blk_frozen BK179.out 4
    have hfz7_5 := blk_frozen BK179.out 5
    go_wp2
    go_meet
    case rel => exact ⟨_, (true), (by first | rfl | (simp; done) | (simp [*]; done)), H', ⟨by first | omega | exact Nat.le_refl _⟩, ⟨by (with_reducible repeat (first | refine blk_drewN ?_ _ | refine blk_drew ?_ | refine blk_alloc ?_ _)); exact BK179.out⟩, ⟨by repeat (first | (with_reducible first | exact HB.out | apply below_alloc | apply pw_below_drewN | apply below_drew1 | refine below_set ?_ GE179.out) | exact HB.out)⟩⟩
   ·rw [if_neg c6] at H
    have c6b0 : decide (2155 < a0_0) = false := decide_eq_false c6
    clear c6
    by_cases c8 : a0_1 < 1
    ·rw [if_pos c8] at H
     have c8b0 : decide (a0_1 < 1) = true := decide_eq_true c8
     clear c8
     have H' := Aside0.mk H
     clear H
     have hcz9_0 : w3.cell? ⟨gb179, 0, none⟩ = some (.int .i64 a0_0) := (blk_cell BK179.out 0).trans rfl
     have hcz9_1 : w3.cell? ⟨gb179, 1, none⟩ = some (.int .i64 a0_1) := (blk_cell BK179.out 1).trans rfl
     have hcz9_2 : w3.cell? ⟨gb179, 2, none⟩ = some (.int .i64 a0_2) := (blk_cell BK179.out 2).trans rfl
     have hcz9_3 : w3.cell? ⟨gb179, 3, none⟩ = some (.int .i64 a0_3) := (blk_cell BK179.out 3).trans rfl
     have hcz9_4 : w3.cell? ⟨gb179, 4, none⟩ = some (.int .i64 a0_4) := (blk_cell BK179.out 4).trans rfl
     have hcz9_5 : w3.cell? ⟨gb179, 5, none⟩ = some (.int .i64 a0_5) := (blk_cell BK179.out 5).trans rfl
     have hfz9_0 := blk_frozen BK179.out 0
     have hfz9_1 := blk_frozen BK179.out 1
     have hfz9_2 := blk_frozen BK179.out 2
     have hfz9_3 := blk_frozen BK179.out 3
     have hfz9_4 := blk_frozen BK179.out 4
     have hfz9_5 := blk_frozen BK179.out 5
     go_wp2
     go_meet
     case rel => exact ⟨_, (true), (by first | rfl | (simp; done) | (simp [*]; done)), H', ⟨by first | omega | exact Nat.le_refl _⟩, ⟨by (with_reducible repeat (first | refine blk_drewN ?_ _ | refine blk_drew ?_ | refine blk_alloc ?_ _)); exact BK179.out⟩, ⟨by repeat (first | (with_reducible first | exact HB.out | apply below_alloc | apply pw_below_drewN | apply below_drew1 | refine below_set ?_ GE179.out) | exact HB.out)⟩⟩
    ·rw [if_neg c8] at H
     have c8b0 : decide (a0_1 < 1) = false := decide_eq_false c8
     clear c8
     have H' := Aside0.mk H
     clear H
     have hcz10_0 : w3.cell? ⟨gb179, 0, none⟩ = some (.int .i64 a0_0) := (blk_cell BK179.out 0).trans rfl
     have hcz10_1 : w3.cell? ⟨gb179, 1, none⟩ = some (.int .i64 a0_1) := (blk_cell BK179.out 1).trans rfl
     have hcz10_2 : w3.cell? ⟨gb179, 2, none⟩ = some (.int .i64 a0_2) := (blk_cell BK179.out 2).trans rfl
     have hcz10_3 : w3.cell? ⟨gb179, 3, none⟩ = some (.int .i64 a0_3) := (blk_cell BK179.out 3).trans rfl
     have hcz10_4 : w3.cell? ⟨gb179, 4, none⟩ = some (.int .i64 a0_4) := (blk_cell BK179.out 4).trans rfl
     have hcz10_5 : w3.cell? ⟨gb179, 5, none⟩ = some (.int .i64 a0_5) := (blk_cell BK179.out 5).trans rfl
     have hfz10_0 := blk_frozen BK179.out 0
     have hfz10_1 := blk_frozen BK179.out 1
     have hfz10_2 := blk_frozen BK179.out 2
     have hfz10_3 := blk_frozen BK179.out 3
     have hfz10_4 := blk_frozen BK179.out 4
     have hfz10_5 := blk_frozen BK179.out 5
     go_wp2
     go_meet
     case rel => exact ⟨_, (decide (a0_1 > 12)), (by first | rfl | (simp; done) | (simp [*]; done)), H', ⟨by first | omega | exact Nat.le_refl _⟩, ⟨by (with_reducible repeat (first | refine blk_drewN ?_ _ | refine blk_drew ?_ | refine blk_alloc ?_ _)); exact BK179.out⟩, ⟨by repeat (first | (with_reducible first | exact HB.out | apply below_alloc | apply pw_below_drewN | apply below_drew1 | refine below_set ?_ GE179.out) | exact HB.out)⟩⟩
 case rest =>
  clear HC2
  try clear c1
  try clear p2
  try clear c4
  try clear c4b0
  try clear c6
  try clear c6b0
  try clear c8
  try clear c8b0
  try clear hcz10_0
  try clear hcz10_1
  try clear hcz10_2
  try clear hcz10_3
  try clear hcz10_4
  try clear hcz10_5
  try clear hcz5_0
  try clear hcz5_1
  try clear hcz5_2
  try clear hcz5_3
  try clear hcz5_4
  try clear hcz5_5
  try clear hcz7_0
  try clear hcz7_1
  try clear hcz7_2
  try clear hcz7_3
  try clear hcz7_4
  try clear hcz7_5
  try clear hcz9_0
  try clear hcz9_1
  try clear hcz9_2
  try clear hcz9_3
  try clear hcz9_4
  try clear hcz9_5
  try clear hfz10_0
  try clear hfz10_1
  try clear hfz10_2
  try clear hfz10_3
  try clear hfz10_4
  try clear hfz10_5
  try clear hfz5_0
  try clear hfz5_1
  try clear hfz5_2
  try clear hfz5_3
  try clear hfz5_4
  try clear hfz5_5
  try clear hfz7_0
  try clear hfz7_1
  try clear hfz7_2
  try clear hfz7_3
  try clear hfz7_4
  try clear hfz7_5
  try clear hfz9_0
  try clear hfz9_1
  try clear hfz9_2
  try clear hfz9_3
  try clear hfz9_4
  try clear hfz9_5
  obtain ⟨kq, x21_1, rfl, HA, HJ1, BK179, HB⟩ := hcut
  cases kq with
  | zero => exact absurd HA.out (by simp [datetime_valid.j0])
  | succ kj1 =>
   have H := HA.out
   clear HA
   simp only [datetime_valid.j0] at H
   by_cases c11 : x21_1 = true
   ·subst c11
    have H1 : (some false) = some r := by rw [if_pos rfl] at H; exact H
    clear H
    have H := H1
    clear H1
    obtain rfl := Option.some.inj H
    go_wp2
    go_ret
    exact ⟨by first | rfl | (simp [errW_none, errW_some] <;> rfl) | (simp [*, errW_none, errW_some] <;> rfl), by repeat (first | (with_reducible first | exact HB.out | apply below_alloc | apply pw_below_drewN | apply below_drew1 | refine below_set ?_ GE179.out) | exact HB.out)⟩
   ·replace c11 := Bool.eq_false_iff.mpr c11
    subst c11
    have H1 : (if a0_2 ≥ 1 then ((datetime_monthDays.f a0_0 a0_1).bind fun t180 => (if a0_2 ≤ t180 then ((datetime_valid_1.f a0_3 23).bind fun t181 => (if t181 = true then ((datetime_valid_1.f a0_4 59).bind fun t182 => (if t182 = true then ((datetime_valid_1.f a0_5 59).bind fun t183 => (some t183)) else (some false))) else (some false))) else (some false))) else (some false)) = some r := by rw [if_neg (show ¬ (false = true) by decide)] at H; exact H
    clear H
    have H := H1
    clear H1
    by_cases c12 : a0_2 ≥ 1
    ·rw [if_pos c12] at H
     have c12b0 : decide (1 ≤ a0_2) = true := decide_eq_true c12
     clear c12
     replace H := Option.bind_eq_some_iff.mp H
     obtain ⟨t180, A130, H⟩ := H
     replace H : (if a0_2 ≤ t180 then ((datetime_valid_1.f a0_3 23).bind fun t181 => (if t181 = true then ((datetime_valid_1.f a0_4 59).bind fun t182 => (if t182 = true then ((datetime_valid_1.f a0_5 59).bind fun t183 => (some t183)) else (some false))) else (some false))) else (some false)) = some r := H
     have A13 := Aside0.mk A130
     clear A130
     by_cases c14 : a0_2 ≤ t180
     ·rw [if_pos c14] at H
      have c14b0 : decide (a0_2 ≤ t180) = true := decide_eq_true c14
      clear c14
      replace H := Option.bind_eq_some_iff.mp H
      obtain ⟨t181, A150, H⟩ := H
      replace H : (if t181 = true then ((datetime_valid_1.f a0_4 59).bind fun t182 => (if t182 = true then ((datetime_valid_1.f a0_5 59).bind fun t183 => (some t183)) else (some false))) else (some false)) = some r := H
      have A15 := Aside0.mk A150
      clear A150
      by_cases c16 : t181 = true
      ·subst c16
       have H1 : ((datetime_valid_1.f a0_4 59).bind fun t182 => (if t182 = true then ((datetime_valid_1.f a0_5 59).bind fun t183 => (some t183)) else (some false))) = some r := by rw [if_pos rfl] at H; exact H
       clear H
       have H := H1
       clear H1
       replace H := Option.bind_eq_some_iff.mp H
       obtain ⟨t182, A170, H⟩ := H
       replace H : (if t182 = true then ((datetime_valid_1.f a0_5 59).bind fun t183 => (some t183)) else (some false)) = some r := H
       have A17 := Aside0.mk A170
       clear A170
       by_cases c18 : t182 = true
       ·subst c18
        have H1 : ((datetime_valid_1.f a0_5 59).bind fun t183 => (some t183)) = some r := by rw [if_pos rfl] at H; exact H
        clear H
        have H := H1
        clear H1
        replace H := Option.bind_eq_some_iff.mp H
        obtain ⟨t183, A190, H⟩ := H
        replace H : (some t183) = some r := H
        have A19 := Aside0.mk A190
        clear A190
        obtain rfl := Option.some.inj H
        try go_wp2
        replace BK179 := Aside0.mk (blk_drew BK179.out)
        replace HB := Aside0.mk (below_drew1 HB.out)
        refine start_ (n := 32) (S := fun w' => w'.cell? ⟨gb179, 0, none⟩ = some (.int .i64 a0_0) ∧ w'.cell? ⟨gb179, 1, none⟩ = some (.int .i64 a0_1) ∧ w'.cell? ⟨gb179, 2, none⟩ = some (.int .i64 a0_2) ∧ w'.cell? ⟨gb179, 3, none⟩ = some (.int .i64 a0_3) ∧ w'.cell? ⟨gb179, 4, none⟩ = some (.int .i64 a0_4) ∧ w'.cell? ⟨gb179, 5, none⟩ = some (.int .i64 a0_5)) (ds := []) #[false, false, false, false, false, false, false, false, false, false, false, false, false, false, false, false, false, false, false, false, false, false, false, false, false, false, false, false, false, false, false, false] (by kernel_rfl) rfl rfl ⟨(blk_cell BK179.out 0).trans rfl, (blk_cell BK179.out 1).trans rfl, (blk_cell BK179.out 2).trans rfl, (blk_cell BK179.out 3).trans rfl, (blk_cell BK179.out 4).trans rfl, (blk_cell BK179.out 5).trans rfl⟩ (fun hHeld => ?_); refine with_tabW datetime_valid.tab4 datetime_valid.bits4 (fun HT_ HW_ => ?_)
        generalize wc.drew = w20 at BK179 HB hHeld ⊢
        refine pA (i := 0) (N := some 22) (tb 32 1) (any_of HT_.out (by kernel_rfl)) ?_
        refine take_ (i := 1) (N := some 23) (v := ?_) (a' := ?_) (tb 32 3) rfl rfl (take_ofW HT_.out HW_.out (by kernel_rfl)) (fun _ _ _ h => h) (Or.inl ⟨by rfl, ?_⟩) hHeld ?_ ?_
        rotate_left
        ·rintro w' ⟨s0, s1, s2, s3, s4, s5⟩
         go_simp
         with_reducible rfl
        rotate_left
        ·simp only [Act.put, List.setIfInBounds_toArray, List.set_cons_zero, List.set_cons_succ, i64_w, i32_w]
         rfl
        refine pA (i := 2) (N := some 24) (tb 32 7) (any_of HT_.out (by kernel_rfl)) ?_
        refine pA (i := 3) (N := some 25) (tb 32 15) (any_of HT_.out (by kernel_rfl)) ?_
        refine pA (i := 4) (N := some 26) (tb 32 31) (any_of HT_.out (by kernel_rfl)) ?_
        refine pA (i := 6) (N := some 28) (tb 32 95) (any_of HT_.out (by kernel_rfl)) ?_
        refine pA (i := 8) (N := some 30) (tb 32 351) (any_of HT_.out (by kernel_rfl)) ?_
        refine take_ (i := 5) (N := some 27) (v := ?_) (a' := ?_) (tb 32 383) rfl rfl (take_ofW HT_.out HW_.out (by kernel_rfl)) (fun _ _ _ h => h) (Or.inl ⟨by rfl, ?_⟩) hHeld ?_ ?_
        rotate_left
        ·rintro w' ⟨s0, s1, s2, s3, s4, s5⟩
         go_simp
         with_reducible rfl
        rotate_left
        ·simp only [Act.put, List.setIfInBounds_toArray, List.set_cons_zero, List.set_cons_succ, i64_w, i32_w]
         rfl
        refine take_ (i := 7) (N := some 29) (v := ?_) (a' := ?_) (tb 32 511) rfl rfl (take_ofW HT_.out HW_.out (by kernel_rfl)) (fun _ _ _ h => h) (Or.inl ⟨by rfl, ?_⟩) hHeld ?_ ?_
        rotate_left
        ·rintro w' ⟨s0, s1, s2, s3, s4, s5⟩
         go_simp
         with_reducible rfl
        rotate_left
        ·simp only [Act.put, List.setIfInBounds_toArray, List.set_cons_zero, List.set_cons_succ, i64_w, i32_w]
         rfl
        refine take_ (i := 9) (N := some 31) (v := ?_) (a' := ?_) (tb 32 1023) rfl rfl (take_ofW HT_.out HW_.out (by kernel_rfl)) (fun _ _ _ h => h) (Or.inl ⟨by rfl, ?_⟩) hHeld ?_ ?_
        rotate_left
        ·rintro w' ⟨s0, s1, s2, s3, s4, s5⟩
         go_simp
         with_reducible rfl
        rotate_left
        ·simp only [Act.put, List.setIfInBounds_toArray, List.set_cons_zero, List.set_cons_succ, i64_w, i32_w]
         rfl
        refine one_ (i := 10) (N := some 32) (tb 32 2047) rfl rfl (one_of HT_.out (by kernel_rfl)) (by decide) (fun K hK => ?_)
        (first | (refine goes_ Tryz.func119 (by kernel_rfl) rfl #[.int .i64 a0_0, .int .i64 a0_1] (by rfl) rfl rfl (by (try simp only [List.map_toArray, List.map_cons, List.map_nil]); first | done | rfl | (simp only [List.length_drop, List.length_take]; rfl)) ?_) | (refine goesV_ Tryz.func119 (by kernel_rfl) rfl #[.int .i64 a0_0, .int .i64 a0_1] (by rfl) rfl rfl (by rfl) (by (try simp only [List.map_toArray, List.map_cons, List.map_nil]); first | done | rfl | (simp only [List.length_drop, List.length_take]; rfl)) ?_))
        with_reducible refine (datetime_monthDays.calls a0_0 a0_1 t180 _ A13.out).mono ?_
        rintro e w21 ⟨rfl, hb⟩
        refine ⟨_, rfl, ?_⟩
        replace BK179 := Aside0.mk (blk_below (g := gb179) (o := .cells #[.int .i64 a0_0, .int .i64 a0_1, .int .i64 a0_2, .int .i64 a0_3, .int .i64 a0_4, .int .i64 a0_5] 119 (0, 0)) (by (with_reducible repeat (first | refine blk_drewN ?_ _ | refine blk_drew ?_ | refine blk_alloc ?_ _)); exact BK179.out) hb)
        replace HB := Aside0.mk (below_step (by repeat (first | (with_reducible first | exact HB.out | apply below_alloc | apply pw_below_drewN | apply below_drew1 | refine below_set ?_ GE179.out) | exact HB.out)) hb)
        (try clear hb)
        (try clear hb2)
        (try clear hk)
        (try clear hi)
        refine hK.out _ _ ⟨(blk_cell BK179.out 0).trans rfl, (blk_cell BK179.out 1).trans rfl, (blk_cell BK179.out 2).trans rfl, (blk_cell BK179.out 3).trans rfl, (blk_cell BK179.out 4).trans rfl, (blk_cell BK179.out 5).trans rfl⟩ (fun hHeld => ?_)
        clear hK K
        refine norm_ (a' := ?_) ?_ ?_
        rotate_left
        ·show Act.put _ (some 32) _ = _
         simp only [Act.put, List.setIfInBounds_toArray, List.set_cons_zero, List.set_cons_succ, i64_w, i32_w]
         rfl
        refine pA (i := 11) (N := some 33) (tb 32 4095) (any_of HT_.out (by kernel_rfl)) ?_
        refine pA (i := 12) (N := some 34) (tb 32 8191) (any_of HT_.out (by kernel_rfl)) ?_
        refine pA (i := 13) (N := some 35) (tb 32 16383) (any_of HT_.out (by kernel_rfl)) ?_
        refine pA (i := 14) (N := some 36) (tb 32 32767) (any_of HT_.out (by kernel_rfl)) ?_
        refine pA (i := 15) (N := some 37) (tb 32 65535) (any_of HT_.out (by kernel_rfl)) ?_
        refine take_ (i := 16) (N := some 38) (v := ?_) (a' := ?_) (tb 32 131071) rfl rfl (take_ofW HT_.out HW_.out (by kernel_rfl)) (fun _ _ _ h => h) (Or.inl ⟨by rfl, ?_⟩) hHeld ?_ ?_
        rotate_left
        ·rintro w' ⟨s0, s1, s2, s3, s4, s5⟩
         go_simp
         with_reducible rfl
        rotate_left
        ·simp only [Act.put, List.setIfInBounds_toArray, List.set_cons_zero, List.set_cons_succ, i64_w, i32_w]
         rfl
        refine one_ (i := 17) (N := some 39) (tb 32 262143) rfl rfl (one_of HT_.out (by kernel_rfl)) (by decide) (fun K hK => ?_)
        (first | (refine goes_ Tryz.func137 (by kernel_rfl) rfl #[.int .i64 a0_3, .int .i64 23] (by rfl) rfl rfl (by (try simp only [List.map_toArray, List.map_cons, List.map_nil]); first | done | rfl | (simp only [List.length_drop, List.length_take]; rfl)) ?_) | (refine goesV_ Tryz.func137 (by kernel_rfl) rfl #[.int .i64 a0_3, .int .i64 23] (by rfl) rfl rfl (by rfl) (by (try simp only [List.map_toArray, List.map_cons, List.map_nil]); first | done | rfl | (simp only [List.length_drop, List.length_take]; rfl)) ?_))
        with_reducible refine (datetime_valid_1.calls a0_3 23 true _ A15.out).mono ?_
        rintro e w' ⟨rfl, ⟨nd, rfl⟩⟩
        refine ⟨_, rfl, ?_⟩
        refine hK.out _ _ ⟨(blk_cell BK179.out 0).trans rfl, (blk_cell BK179.out 1).trans rfl, (blk_cell BK179.out 2).trans rfl, (blk_cell BK179.out 3).trans rfl, (blk_cell BK179.out 4).trans rfl, (blk_cell BK179.out 5).trans rfl⟩ (fun hHeld => ?_)
        clear hK K
        refine norm_ (a' := ?_) ?_ ?_
        rotate_left
        ·show Act.put _ (some 39) _ = _
         simp only [Act.put, List.setIfInBounds_toArray, List.set_cons_zero, List.set_cons_succ, i64_w, i32_w]
         rfl
        refine pA (i := 18) (N := some 40) (tb 32 524287) (any_of HT_.out (by kernel_rfl)) ?_
        refine pA (i := 19) (N := some 41) (tb 32 1048575) (any_of HT_.out (by kernel_rfl)) ?_
        refine pA (i := 20) (N := some 42) (tb 32 2097151) (any_of HT_.out (by kernel_rfl)) ?_
        refine pA (i := 21) (N := some 43) (tb 32 4194303) (any_of HT_.out (by kernel_rfl)) ?_
        refine take_ (i := 22) (N := some 44) (v := ?_) (a' := ?_) (tb 32 8388607) rfl rfl (take_ofW HT_.out HW_.out (by kernel_rfl)) (fun _ _ _ h => h) (Or.inl ⟨by rfl, ?_⟩) hHeld ?_ ?_
        rotate_left
        ·rintro w' ⟨s0, s1, s2, s3, s4, s5⟩
         go_simp
         with_reducible rfl
        rotate_left
        ·simp only [Act.put, List.setIfInBounds_toArray, List.set_cons_zero, List.set_cons_succ, i64_w, i32_w]
         rfl
        refine one_ (i := 23) (N := some 45) (tb 32 16777215) rfl rfl (one_of HT_.out (by kernel_rfl)) (by decide) (fun K hK => ?_)
        (first | (refine goes_ Tryz.func137 (by kernel_rfl) rfl #[.int .i64 a0_4, .int .i64 59] (by rfl) rfl rfl (by (try simp only [List.map_toArray, List.map_cons, List.map_nil]); first | done | rfl | (simp only [List.length_drop, List.length_take]; rfl)) ?_) | (refine goesV_ Tryz.func137 (by kernel_rfl) rfl #[.int .i64 a0_4, .int .i64 59] (by rfl) rfl rfl (by rfl) (by (try simp only [List.map_toArray, List.map_cons, List.map_nil]); first | done | rfl | (simp only [List.length_drop, List.length_take]; rfl)) ?_))
        with_reducible refine (datetime_valid_1.calls a0_4 59 true _ A17.out).mono ?_
        rintro e w' ⟨rfl, ⟨nd, rfl⟩⟩
        refine ⟨_, rfl, ?_⟩
        refine hK.out _ _ ⟨(blk_cell BK179.out 0).trans rfl, (blk_cell BK179.out 1).trans rfl, (blk_cell BK179.out 2).trans rfl, (blk_cell BK179.out 3).trans rfl, (blk_cell BK179.out 4).trans rfl, (blk_cell BK179.out 5).trans rfl⟩ (fun hHeld => ?_)
        clear hK K
        refine norm_ (a' := ?_) ?_ ?_
        rotate_left
        ·show Act.put _ (some 45) _ = _
         simp only [Act.put, List.setIfInBounds_toArray, List.set_cons_zero, List.set_cons_succ, i64_w, i32_w]
         rfl
        refine pA (i := 24) (N := some 46) (tb 32 33554431) (any_of HT_.out (by kernel_rfl)) ?_
        refine pA (i := 25) (N := some 47) (tb 32 67108863) (any_of HT_.out (by kernel_rfl)) ?_
        refine pA (i := 26) (N := some 48) (tb 32 134217727) (any_of HT_.out (by kernel_rfl)) ?_
        refine pA (i := 27) (N := some 49) (tb 32 268435455) (any_of HT_.out (by kernel_rfl)) ?_
        refine take_ (i := 28) (N := some 50) (v := ?_) (a' := ?_) (tb 32 536870911) rfl rfl (take_ofW HT_.out HW_.out (by kernel_rfl)) (fun _ _ _ h => h) (Or.inl ⟨by rfl, ?_⟩) hHeld ?_ ?_
        rotate_left
        ·rintro w' ⟨s0, s1, s2, s3, s4, s5⟩
         go_simp
         with_reducible rfl
        rotate_left
        ·simp only [Act.put, List.setIfInBounds_toArray, List.set_cons_zero, List.set_cons_succ, i64_w, i32_w]
         rfl
        refine one_ (i := 29) (N := some 51) (tb 32 1073741823) rfl rfl (one_of HT_.out (by kernel_rfl)) (by decide) (fun K hK => ?_)
        (first | (refine goes_ Tryz.func137 (by kernel_rfl) rfl #[.int .i64 a0_5, .int .i64 59] (by rfl) rfl rfl (by (try simp only [List.map_toArray, List.map_cons, List.map_nil]); first | done | rfl | (simp only [List.length_drop, List.length_take]; rfl)) ?_) | (refine goesV_ Tryz.func137 (by kernel_rfl) rfl #[.int .i64 a0_5, .int .i64 59] (by rfl) rfl rfl (by rfl) (by (try simp only [List.map_toArray, List.map_cons, List.map_nil]); first | done | rfl | (simp only [List.length_drop, List.length_take]; rfl)) ?_))
        with_reducible refine (datetime_valid_1.calls a0_5 59 t183 _ A19.out).mono ?_
        rintro e w' ⟨rfl, ⟨nd, rfl⟩⟩
        refine ⟨_, rfl, ?_⟩
        refine hK.out _ _ ⟨(blk_cell BK179.out 0).trans rfl, (blk_cell BK179.out 1).trans rfl, (blk_cell BK179.out 2).trans rfl, (blk_cell BK179.out 3).trans rfl, (blk_cell BK179.out 4).trans rfl, (blk_cell BK179.out 5).trans rfl⟩ (fun hHeld => ?_)
        clear hK K
        refine norm_ (a' := ?_) ?_ ?_
        rotate_left
        ·show Act.put _ (some 51) _ = _
         simp only [Act.put, List.setIfInBounds_toArray, List.set_cons_zero, List.set_cons_succ, i64_w, i32_w]
         rfl
        refine pA (i := 30) (N := some 52) (tb 32 2147483647) (any_of HT_.out (by kernel_rfl)) ?_
        refine pA (i := 31) (N := some 2) (tb 32 4294967295) (any_of HT_.out (by kernel_rfl)) ?_
        refine done_ (done_of HT_.out (by kernel_rfl)) ?_
        try go_wp2
        go_ret
        exact ⟨by first | rfl | (simp [errW_none, errW_some] <;> rfl) | (simp [*, errW_none, errW_some] <;> rfl), by repeat (first | (with_reducible first | exact HB.out | apply below_alloc | apply pw_below_drewN | apply below_drew1 | refine below_set ?_ GE179.out) | exact HB.out)⟩
       ·replace c18 := Bool.eq_false_iff.mpr c18
        subst c18
        have H1 : (some false) = some r := by rw [if_neg (show ¬ (false = true) by decide)] at H; exact H
        clear H
        have H := H1
        clear H1
        obtain rfl := Option.some.inj H
        try go_wp2
        replace BK179 := Aside0.mk (blk_drew BK179.out)
        replace HB := Aside0.mk (below_drew1 HB.out)
        refine start_ (n := 32) (S := fun w' => w'.cell? ⟨gb179, 0, none⟩ = some (.int .i64 a0_0) ∧ w'.cell? ⟨gb179, 1, none⟩ = some (.int .i64 a0_1) ∧ w'.cell? ⟨gb179, 2, none⟩ = some (.int .i64 a0_2) ∧ w'.cell? ⟨gb179, 3, none⟩ = some (.int .i64 a0_3) ∧ w'.cell? ⟨gb179, 4, none⟩ = some (.int .i64 a0_4) ∧ w'.cell? ⟨gb179, 5, none⟩ = some (.int .i64 a0_5)) (ds := []) #[false, false, false, false, false, false, false, false, false, false, false, false, false, false, false, false, false, false, false, false, false, false, false, false, false, false, false, false, false, false, false, false] (by kernel_rfl) rfl rfl ⟨(blk_cell BK179.out 0).trans rfl, (blk_cell BK179.out 1).trans rfl, (blk_cell BK179.out 2).trans rfl, (blk_cell BK179.out 3).trans rfl, (blk_cell BK179.out 4).trans rfl, (blk_cell BK179.out 5).trans rfl⟩ (fun hHeld => ?_); refine with_tabW datetime_valid.tab4 datetime_valid.bits4 (fun HT_ HW_ => ?_)
        generalize wc.drew = w22 at BK179 HB hHeld ⊢
        refine pA (i := 0) (N := some 22) (tb 32 1) (any_of HT_.out (by kernel_rfl)) ?_
        refine take_ (i := 1) (N := some 23) (v := ?_) (a' := ?_) (tb 32 3) rfl rfl (take_ofW HT_.out HW_.out (by kernel_rfl)) (fun _ _ _ h => h) (Or.inl ⟨by rfl, ?_⟩) hHeld ?_ ?_
        rotate_left
        ·rintro w' ⟨s0, s1, s2, s3, s4, s5⟩
         go_simp
         with_reducible rfl
        rotate_left
        ·simp only [Act.put, List.setIfInBounds_toArray, List.set_cons_zero, List.set_cons_succ, i64_w, i32_w]
         rfl
        refine pA (i := 2) (N := some 24) (tb 32 7) (any_of HT_.out (by kernel_rfl)) ?_
        refine pA (i := 3) (N := some 25) (tb 32 15) (any_of HT_.out (by kernel_rfl)) ?_
        refine pA (i := 4) (N := some 26) (tb 32 31) (any_of HT_.out (by kernel_rfl)) ?_
        refine pA (i := 6) (N := some 28) (tb 32 95) (any_of HT_.out (by kernel_rfl)) ?_
        refine pA (i := 8) (N := some 30) (tb 32 351) (any_of HT_.out (by kernel_rfl)) ?_
        refine take_ (i := 5) (N := some 27) (v := ?_) (a' := ?_) (tb 32 383) rfl rfl (take_ofW HT_.out HW_.out (by kernel_rfl)) (fun _ _ _ h => h) (Or.inl ⟨by rfl, ?_⟩) hHeld ?_ ?_
        rotate_left
        ·rintro w' ⟨s0, s1, s2, s3, s4, s5⟩
         go_simp
         with_reducible rfl
        rotate_left
        ·simp only [Act.put, List.setIfInBounds_toArray, List.set_cons_zero, List.set_cons_succ, i64_w, i32_w]
         rfl
        refine take_ (i := 7) (N := some 29) (v := ?_) (a' := ?_) (tb 32 511) rfl rfl (take_ofW HT_.out HW_.out (by kernel_rfl)) (fun _ _ _ h => h) (Or.inl ⟨by rfl, ?_⟩) hHeld ?_ ?_
        rotate_left
        ·rintro w' ⟨s0, s1, s2, s3, s4, s5⟩
         go_simp
         with_reducible rfl
        rotate_left
        ·simp only [Act.put, List.setIfInBounds_toArray, List.set_cons_zero, List.set_cons_succ, i64_w, i32_w]
         rfl
        refine take_ (i := 9) (N := some 31) (v := ?_) (a' := ?_) (tb 32 1023) rfl rfl (take_ofW HT_.out HW_.out (by kernel_rfl)) (fun _ _ _ h => h) (Or.inl ⟨by rfl, ?_⟩) hHeld ?_ ?_
        rotate_left
        ·rintro w' ⟨s0, s1, s2, s3, s4, s5⟩
         go_simp
         with_reducible rfl
        rotate_left
        ·simp only [Act.put, List.setIfInBounds_toArray, List.set_cons_zero, List.set_cons_succ, i64_w, i32_w]
         rfl
        refine one_ (i := 10) (N := some 32) (tb 32 2047) rfl rfl (one_of HT_.out (by kernel_rfl)) (by decide) (fun K hK => ?_)
        (first | (refine goes_ Tryz.func119 (by kernel_rfl) rfl #[.int .i64 a0_0, .int .i64 a0_1] (by rfl) rfl rfl (by (try simp only [List.map_toArray, List.map_cons, List.map_nil]); first | done | rfl | (simp only [List.length_drop, List.length_take]; rfl)) ?_) | (refine goesV_ Tryz.func119 (by kernel_rfl) rfl #[.int .i64 a0_0, .int .i64 a0_1] (by rfl) rfl rfl (by rfl) (by (try simp only [List.map_toArray, List.map_cons, List.map_nil]); first | done | rfl | (simp only [List.length_drop, List.length_take]; rfl)) ?_))
        with_reducible refine (datetime_monthDays.calls a0_0 a0_1 t180 _ A13.out).mono ?_
        rintro e w23 ⟨rfl, hb⟩
        refine ⟨_, rfl, ?_⟩
        replace BK179 := Aside0.mk (blk_below (g := gb179) (o := .cells #[.int .i64 a0_0, .int .i64 a0_1, .int .i64 a0_2, .int .i64 a0_3, .int .i64 a0_4, .int .i64 a0_5] 119 (0, 0)) (by (with_reducible repeat (first | refine blk_drewN ?_ _ | refine blk_drew ?_ | refine blk_alloc ?_ _)); exact BK179.out) hb)
        replace HB := Aside0.mk (below_step (by repeat (first | (with_reducible first | exact HB.out | apply below_alloc | apply pw_below_drewN | apply below_drew1 | refine below_set ?_ GE179.out) | exact HB.out)) hb)
        (try clear hb)
        (try clear hb2)
        (try clear hk)
        (try clear hi)
        refine hK.out _ _ ⟨(blk_cell BK179.out 0).trans rfl, (blk_cell BK179.out 1).trans rfl, (blk_cell BK179.out 2).trans rfl, (blk_cell BK179.out 3).trans rfl, (blk_cell BK179.out 4).trans rfl, (blk_cell BK179.out 5).trans rfl⟩ (fun hHeld => ?_)
        clear hK K
        refine norm_ (a' := ?_) ?_ ?_
        rotate_left
        ·show Act.put _ (some 32) _ = _
         simp only [Act.put, List.setIfInBounds_toArray, List.set_cons_zero, List.set_cons_succ, i64_w, i32_w]
         rfl
        refine pA (i := 11) (N := some 33) (tb 32 4095) (any_of HT_.out (by kernel_rfl)) ?_
        refine pA (i := 12) (N := some 34) (tb 32 8191) (any_of HT_.out (by kernel_rfl)) ?_
        refine pA (i := 13) (N := some 35) (tb 32 16383) (any_of HT_.out (by kernel_rfl)) ?_
        refine pA (i := 14) (N := some 36) (tb 32 32767) (any_of HT_.out (by kernel_rfl)) ?_
        refine pA (i := 15) (N := some 37) (tb 32 65535) (any_of HT_.out (by kernel_rfl)) ?_
        refine take_ (i := 16) (N := some 38) (v := ?_) (a' := ?_) (tb 32 131071) rfl rfl (take_ofW HT_.out HW_.out (by kernel_rfl)) (fun _ _ _ h => h) (Or.inl ⟨by rfl, ?_⟩) hHeld ?_ ?_
        rotate_left
        ·rintro w' ⟨s0, s1, s2, s3, s4, s5⟩
         go_simp
         with_reducible rfl
        rotate_left
        ·simp only [Act.put, List.setIfInBounds_toArray, List.set_cons_zero, List.set_cons_succ, i64_w, i32_w]
         rfl
        refine one_ (i := 17) (N := some 39) (tb 32 262143) rfl rfl (one_of HT_.out (by kernel_rfl)) (by decide) (fun K hK => ?_)
        (first | (refine goes_ Tryz.func137 (by kernel_rfl) rfl #[.int .i64 a0_3, .int .i64 23] (by rfl) rfl rfl (by (try simp only [List.map_toArray, List.map_cons, List.map_nil]); first | done | rfl | (simp only [List.length_drop, List.length_take]; rfl)) ?_) | (refine goesV_ Tryz.func137 (by kernel_rfl) rfl #[.int .i64 a0_3, .int .i64 23] (by rfl) rfl rfl (by rfl) (by (try simp only [List.map_toArray, List.map_cons, List.map_nil]); first | done | rfl | (simp only [List.length_drop, List.length_take]; rfl)) ?_))
        with_reducible refine (datetime_valid_1.calls a0_3 23 true _ A15.out).mono ?_
        rintro e w' ⟨rfl, ⟨nd, rfl⟩⟩
        refine ⟨_, rfl, ?_⟩
        refine hK.out _ _ ⟨(blk_cell BK179.out 0).trans rfl, (blk_cell BK179.out 1).trans rfl, (blk_cell BK179.out 2).trans rfl, (blk_cell BK179.out 3).trans rfl, (blk_cell BK179.out 4).trans rfl, (blk_cell BK179.out 5).trans rfl⟩ (fun hHeld => ?_)
        clear hK K
        refine norm_ (a' := ?_) ?_ ?_
        rotate_left
        ·show Act.put _ (some 39) _ = _
         simp only [Act.put, List.setIfInBounds_toArray, List.set_cons_zero, List.set_cons_succ, i64_w, i32_w]
         rfl
        refine pA (i := 18) (N := some 40) (tb 32 524287) (any_of HT_.out (by kernel_rfl)) ?_
        refine pA (i := 19) (N := some 41) (tb 32 1048575) (any_of HT_.out (by kernel_rfl)) ?_
        refine pA (i := 20) (N := some 42) (tb 32 2097151) (any_of HT_.out (by kernel_rfl)) ?_
        refine pA (i := 21) (N := some 43) (tb 32 4194303) (any_of HT_.out (by kernel_rfl)) ?_
        refine take_ (i := 22) (N := some 44) (v := ?_) (a' := ?_) (tb 32 8388607) rfl rfl (take_ofW HT_.out HW_.out (by kernel_rfl)) (fun _ _ _ h => h) (Or.inl ⟨by rfl, ?_⟩) hHeld ?_ ?_
        rotate_left
        ·rintro w' ⟨s0, s1, s2, s3, s4, s5⟩
         go_simp
         with_reducible rfl
        rotate_left
        ·simp only [Act.put, List.setIfInBounds_toArray, List.set_cons_zero, List.set_cons_succ, i64_w, i32_w]
         rfl
        refine one_ (i := 23) (N := some 45) (tb 32 16777215) rfl rfl (one_of HT_.out (by kernel_rfl)) (by decide) (fun K hK => ?_)
        (first | (refine goes_ Tryz.func137 (by kernel_rfl) rfl #[.int .i64 a0_4, .int .i64 59] (by rfl) rfl rfl (by (try simp only [List.map_toArray, List.map_cons, List.map_nil]); first | done | rfl | (simp only [List.length_drop, List.length_take]; rfl)) ?_) | (refine goesV_ Tryz.func137 (by kernel_rfl) rfl #[.int .i64 a0_4, .int .i64 59] (by rfl) rfl rfl (by rfl) (by (try simp only [List.map_toArray, List.map_cons, List.map_nil]); first | done | rfl | (simp only [List.length_drop, List.length_take]; rfl)) ?_))
        with_reducible refine (datetime_valid_1.calls a0_4 59 false _ A17.out).mono ?_
        rintro e w' ⟨rfl, ⟨nd, rfl⟩⟩
        refine ⟨_, rfl, ?_⟩
        refine hK.out _ _ ⟨(blk_cell BK179.out 0).trans rfl, (blk_cell BK179.out 1).trans rfl, (blk_cell BK179.out 2).trans rfl, (blk_cell BK179.out 3).trans rfl, (blk_cell BK179.out 4).trans rfl, (blk_cell BK179.out 5).trans rfl⟩ (fun hHeld => ?_)
        clear hK K
        refine norm_ (a' := ?_) ?_ ?_
        rotate_left
        ·show Act.put _ (some 45) _ = _
         simp only [Act.put, List.setIfInBounds_toArray, List.set_cons_zero, List.set_cons_succ, i64_w, i32_w]
         rfl
        refine pA (i := 24) (N := some 46) (tb 32 33554431) (any_of HT_.out (by kernel_rfl)) ?_
        refine pA (i := 25) (N := some 47) (tb 32 67108863) (any_of HT_.out (by kernel_rfl)) ?_
        refine pure_ (i := 26) (N := some 48) (v := undef) (a' := ?_) (tb 32 134217727) rfl rfl (any_of HT_.out (by kernel_rfl)) (fun _ _ _ h => h) (Or.inr ⟨by rfl, rfl⟩) ?_ ?_
        rotate_left
        ·simp only [Act.put, List.setIfInBounds_toArray, List.set_cons_zero, List.set_cons_succ, i64_w, i32_w]
         rfl
        refine pure_ (i := 27) (N := some 49) (v := undef) (a' := ?_) (tb 32 268435455) rfl rfl (any_of HT_.out (by kernel_rfl)) (fun _ _ _ h => h) (Or.inr ⟨by rfl, rfl⟩) ?_ ?_
        rotate_left
        ·simp only [Act.put, List.setIfInBounds_toArray, List.set_cons_zero, List.set_cons_succ, i64_w, i32_w]
         rfl
        refine pure_ (i := 28) (N := some 50) (v := undef) (a' := ?_) (tb 32 536870911) rfl rfl (any_of HT_.out (by kernel_rfl)) (fun _ _ _ h => h) (Or.inr ⟨by rfl, rfl⟩) ?_ ?_
        rotate_left
        ·simp only [Act.put, List.setIfInBounds_toArray, List.set_cons_zero, List.set_cons_succ, i64_w, i32_w]
         rfl
        refine pure_ (i := 29) (N := some 51) (v := undef) (a' := ?_) (tb 32 1073741823) rfl rfl (any_of HT_.out (by kernel_rfl)) (fun _ _ _ h => h) (Or.inr ⟨by rfl, rfl⟩) ?_ ?_
        rotate_left
        ·simp only [Act.put, List.setIfInBounds_toArray, List.set_cons_zero, List.set_cons_succ, i64_w, i32_w]
         rfl
        refine pA (i := 30) (N := some 52) (tb 32 2147483647) (any_of HT_.out (by kernel_rfl)) ?_
        refine pA (i := 31) (N := some 2) (tb 32 4294967295) (any_of HT_.out (by kernel_rfl)) ?_
        refine done_ (done_of HT_.out (by kernel_rfl)) ?_
        try go_wp2
        go_ret
        exact ⟨by first | rfl | (simp [errW_none, errW_some] <;> rfl) | (simp [*, errW_none, errW_some] <;> rfl), by repeat (first | (with_reducible first | exact HB.out | apply below_alloc | apply pw_below_drewN | apply below_drew1 | refine below_set ?_ GE179.out) | exact HB.out)⟩
      ·replace c16 := Bool.eq_false_iff.mpr c16
       subst c16
       have H1 : (some false) = some r := by rw [if_neg (show ¬ (false = true) by decide)] at H; exact H
       clear H
       have H := H1
       clear H1
       obtain rfl := Option.some.inj H
       try go_wp2
       replace BK179 := Aside0.mk (blk_drew BK179.out)
       replace HB := Aside0.mk (below_drew1 HB.out)
       refine start_ (n := 32) (S := fun w' => w'.cell? ⟨gb179, 0, none⟩ = some (.int .i64 a0_0) ∧ w'.cell? ⟨gb179, 1, none⟩ = some (.int .i64 a0_1) ∧ w'.cell? ⟨gb179, 2, none⟩ = some (.int .i64 a0_2) ∧ w'.cell? ⟨gb179, 3, none⟩ = some (.int .i64 a0_3) ∧ w'.cell? ⟨gb179, 4, none⟩ = some (.int .i64 a0_4) ∧ w'.cell? ⟨gb179, 5, none⟩ = some (.int .i64 a0_5)) (ds := []) #[false, false, false, false, false, false, false, false, false, false, false, false, false, false, false, false, false, false, false, false, false, false, false, false, false, false, false, false, false, false, false, false] (by kernel_rfl) rfl rfl ⟨(blk_cell BK179.out 0).trans rfl, (blk_cell BK179.out 1).trans rfl, (blk_cell BK179.out 2).trans rfl, (blk_cell BK179.out 3).trans rfl, (blk_cell BK179.out 4).trans rfl, (blk_cell BK179.out 5).trans rfl⟩ (fun hHeld => ?_); refine with_tabW datetime_valid.tab4 datetime_valid.bits4 (fun HT_ HW_ => ?_)
       generalize wc.drew = w24 at BK179 HB hHeld ⊢
       refine pA (i := 0) (N := some 22) (tb 32 1) (any_of HT_.out (by kernel_rfl)) ?_
       refine take_ (i := 1) (N := some 23) (v := ?_) (a' := ?_) (tb 32 3) rfl rfl (take_ofW HT_.out HW_.out (by kernel_rfl)) (fun _ _ _ h => h) (Or.inl ⟨by rfl, ?_⟩) hHeld ?_ ?_
       rotate_left
       ·rintro w' ⟨s0, s1, s2, s3, s4, s5⟩
        go_simp
        with_reducible rfl
       rotate_left
       ·simp only [Act.put, List.setIfInBounds_toArray, List.set_cons_zero, List.set_cons_succ, i64_w, i32_w]
        rfl
       refine pA (i := 2) (N := some 24) (tb 32 7) (any_of HT_.out (by kernel_rfl)) ?_
       refine pA (i := 3) (N := some 25) (tb 32 15) (any_of HT_.out (by kernel_rfl)) ?_
       refine pA (i := 4) (N := some 26) (tb 32 31) (any_of HT_.out (by kernel_rfl)) ?_
       refine pA (i := 6) (N := some 28) (tb 32 95) (any_of HT_.out (by kernel_rfl)) ?_
       refine pA (i := 8) (N := some 30) (tb 32 351) (any_of HT_.out (by kernel_rfl)) ?_
       refine take_ (i := 5) (N := some 27) (v := ?_) (a' := ?_) (tb 32 383) rfl rfl (take_ofW HT_.out HW_.out (by kernel_rfl)) (fun _ _ _ h => h) (Or.inl ⟨by rfl, ?_⟩) hHeld ?_ ?_
       rotate_left
       ·rintro w' ⟨s0, s1, s2, s3, s4, s5⟩
        go_simp
        with_reducible rfl
       rotate_left
       ·simp only [Act.put, List.setIfInBounds_toArray, List.set_cons_zero, List.set_cons_succ, i64_w, i32_w]
        rfl
       refine take_ (i := 7) (N := some 29) (v := ?_) (a' := ?_) (tb 32 511) rfl rfl (take_ofW HT_.out HW_.out (by kernel_rfl)) (fun _ _ _ h => h) (Or.inl ⟨by rfl, ?_⟩) hHeld ?_ ?_
       rotate_left
       ·rintro w' ⟨s0, s1, s2, s3, s4, s5⟩
        go_simp
        with_reducible rfl
       rotate_left
       ·simp only [Act.put, List.setIfInBounds_toArray, List.set_cons_zero, List.set_cons_succ, i64_w, i32_w]
        rfl
       refine take_ (i := 9) (N := some 31) (v := ?_) (a' := ?_) (tb 32 1023) rfl rfl (take_ofW HT_.out HW_.out (by kernel_rfl)) (fun _ _ _ h => h) (Or.inl ⟨by rfl, ?_⟩) hHeld ?_ ?_
       rotate_left
       ·rintro w' ⟨s0, s1, s2, s3, s4, s5⟩
        go_simp
        with_reducible rfl
       rotate_left
       ·simp only [Act.put, List.setIfInBounds_toArray, List.set_cons_zero, List.set_cons_succ, i64_w, i32_w]
        rfl
       refine one_ (i := 10) (N := some 32) (tb 32 2047) rfl rfl (one_of HT_.out (by kernel_rfl)) (by decide) (fun K hK => ?_)
       (first | (refine goes_ Tryz.func119 (by kernel_rfl) rfl #[.int .i64 a0_0, .int .i64 a0_1] (by rfl) rfl rfl (by (try simp only [List.map_toArray, List.map_cons, List.map_nil]); first | done | rfl | (simp only [List.length_drop, List.length_take]; rfl)) ?_) | (refine goesV_ Tryz.func119 (by kernel_rfl) rfl #[.int .i64 a0_0, .int .i64 a0_1] (by rfl) rfl rfl (by rfl) (by (try simp only [List.map_toArray, List.map_cons, List.map_nil]); first | done | rfl | (simp only [List.length_drop, List.length_take]; rfl)) ?_))
       with_reducible refine (datetime_monthDays.calls a0_0 a0_1 t180 _ A13.out).mono ?_
       rintro e w25 ⟨rfl, hb⟩
       refine ⟨_, rfl, ?_⟩
       replace BK179 := Aside0.mk (blk_below (g := gb179) (o := .cells #[.int .i64 a0_0, .int .i64 a0_1, .int .i64 a0_2, .int .i64 a0_3, .int .i64 a0_4, .int .i64 a0_5] 119 (0, 0)) (by (with_reducible repeat (first | refine blk_drewN ?_ _ | refine blk_drew ?_ | refine blk_alloc ?_ _)); exact BK179.out) hb)
       replace HB := Aside0.mk (below_step (by repeat (first | (with_reducible first | exact HB.out | apply below_alloc | apply pw_below_drewN | apply below_drew1 | refine below_set ?_ GE179.out) | exact HB.out)) hb)
       (try clear hb)
       (try clear hb2)
       (try clear hk)
       (try clear hi)
       refine hK.out _ _ ⟨(blk_cell BK179.out 0).trans rfl, (blk_cell BK179.out 1).trans rfl, (blk_cell BK179.out 2).trans rfl, (blk_cell BK179.out 3).trans rfl, (blk_cell BK179.out 4).trans rfl, (blk_cell BK179.out 5).trans rfl⟩ (fun hHeld => ?_)
       clear hK K
       refine norm_ (a' := ?_) ?_ ?_
       rotate_left
       ·show Act.put _ (some 32) _ = _
        simp only [Act.put, List.setIfInBounds_toArray, List.set_cons_zero, List.set_cons_succ, i64_w, i32_w]
        rfl
       refine pA (i := 11) (N := some 33) (tb 32 4095) (any_of HT_.out (by kernel_rfl)) ?_
       refine pA (i := 12) (N := some 34) (tb 32 8191) (any_of HT_.out (by kernel_rfl)) ?_
       refine pA (i := 13) (N := some 35) (tb 32 16383) (any_of HT_.out (by kernel_rfl)) ?_
       refine pA (i := 14) (N := some 36) (tb 32 32767) (any_of HT_.out (by kernel_rfl)) ?_
       refine pA (i := 15) (N := some 37) (tb 32 65535) (any_of HT_.out (by kernel_rfl)) ?_
       refine take_ (i := 16) (N := some 38) (v := ?_) (a' := ?_) (tb 32 131071) rfl rfl (take_ofW HT_.out HW_.out (by kernel_rfl)) (fun _ _ _ h => h) (Or.inl ⟨by rfl, ?_⟩) hHeld ?_ ?_
       rotate_left
       ·rintro w' ⟨s0, s1, s2, s3, s4, s5⟩
        go_simp
        with_reducible rfl
       rotate_left
       ·simp only [Act.put, List.setIfInBounds_toArray, List.set_cons_zero, List.set_cons_succ, i64_w, i32_w]
        rfl
       refine one_ (i := 17) (N := some 39) (tb 32 262143) rfl rfl (one_of HT_.out (by kernel_rfl)) (by decide) (fun K hK => ?_)
       (first | (refine goes_ Tryz.func137 (by kernel_rfl) rfl #[.int .i64 a0_3, .int .i64 23] (by rfl) rfl rfl (by (try simp only [List.map_toArray, List.map_cons, List.map_nil]); first | done | rfl | (simp only [List.length_drop, List.length_take]; rfl)) ?_) | (refine goesV_ Tryz.func137 (by kernel_rfl) rfl #[.int .i64 a0_3, .int .i64 23] (by rfl) rfl rfl (by rfl) (by (try simp only [List.map_toArray, List.map_cons, List.map_nil]); first | done | rfl | (simp only [List.length_drop, List.length_take]; rfl)) ?_))
       with_reducible refine (datetime_valid_1.calls a0_3 23 false _ A15.out).mono ?_
       rintro e w' ⟨rfl, ⟨nd, rfl⟩⟩
       refine ⟨_, rfl, ?_⟩
       refine hK.out _ _ ⟨(blk_cell BK179.out 0).trans rfl, (blk_cell BK179.out 1).trans rfl, (blk_cell BK179.out 2).trans rfl, (blk_cell BK179.out 3).trans rfl, (blk_cell BK179.out 4).trans rfl, (blk_cell BK179.out 5).trans rfl⟩ (fun hHeld => ?_)
       clear hK K
       refine norm_ (a' := ?_) ?_ ?_
       rotate_left
       ·show Act.put _ (some 39) _ = _
        simp only [Act.put, List.setIfInBounds_toArray, List.set_cons_zero, List.set_cons_succ, i64_w, i32_w]
        rfl
       refine pA (i := 18) (N := some 40) (tb 32 524287) (any_of HT_.out (by kernel_rfl)) ?_
       refine pA (i := 19) (N := some 41) (tb 32 1048575) (any_of HT_.out (by kernel_rfl)) ?_
       refine pure_ (i := 20) (N := some 42) (v := undef) (a' := ?_) (tb 32 2097151) rfl rfl (any_of HT_.out (by kernel_rfl)) (fun _ _ _ h => h) (Or.inr ⟨by rfl, rfl⟩) ?_ ?_
       rotate_left
       ·simp only [Act.put, List.setIfInBounds_toArray, List.set_cons_zero, List.set_cons_succ, i64_w, i32_w]
        rfl
       refine pure_ (i := 21) (N := some 43) (v := undef) (a' := ?_) (tb 32 4194303) rfl rfl (any_of HT_.out (by kernel_rfl)) (fun _ _ _ h => h) (Or.inr ⟨by rfl, rfl⟩) ?_ ?_
       rotate_left
       ·simp only [Act.put, List.setIfInBounds_toArray, List.set_cons_zero, List.set_cons_succ, i64_w, i32_w]
        rfl
       refine pure_ (i := 22) (N := some 44) (v := undef) (a' := ?_) (tb 32 8388607) rfl rfl (any_of HT_.out (by kernel_rfl)) (fun _ _ _ h => h) (Or.inr ⟨by rfl, rfl⟩) ?_ ?_
       rotate_left
       ·simp only [Act.put, List.setIfInBounds_toArray, List.set_cons_zero, List.set_cons_succ, i64_w, i32_w]
        rfl
       refine pure_ (i := 23) (N := some 45) (v := undef) (a' := ?_) (tb 32 16777215) rfl rfl (any_of HT_.out (by kernel_rfl)) (fun _ _ _ h => h) (Or.inr ⟨by rfl, rfl⟩) ?_ ?_
       rotate_left
       ·simp only [Act.put, List.setIfInBounds_toArray, List.set_cons_zero, List.set_cons_succ, i64_w, i32_w]
        rfl
       refine pA (i := 24) (N := some 46) (tb 32 33554431) (any_of HT_.out (by kernel_rfl)) ?_
       refine pA (i := 25) (N := some 47) (tb 32 67108863) (any_of HT_.out (by kernel_rfl)) ?_
       refine pure_ (i := 26) (N := some 48) (v := undef) (a' := ?_) (tb 32 134217727) rfl rfl (any_of HT_.out (by kernel_rfl)) (fun _ _ _ h => h) (Or.inr ⟨by rfl, rfl⟩) ?_ ?_
       rotate_left
       ·simp only [Act.put, List.setIfInBounds_toArray, List.set_cons_zero, List.set_cons_succ, i64_w, i32_w]
        rfl
       refine pure_ (i := 27) (N := some 49) (v := undef) (a' := ?_) (tb 32 268435455) rfl rfl (any_of HT_.out (by kernel_rfl)) (fun _ _ _ h => h) (Or.inr ⟨by rfl, rfl⟩) ?_ ?_
       rotate_left
       ·simp only [Act.put, List.setIfInBounds_toArray, List.set_cons_zero, List.set_cons_succ, i64_w, i32_w]
        rfl
       refine pure_ (i := 28) (N := some 50) (v := undef) (a' := ?_) (tb 32 536870911) rfl rfl (any_of HT_.out (by kernel_rfl)) (fun _ _ _ h => h) (Or.inr ⟨by rfl, rfl⟩) ?_ ?_
       rotate_left
       ·simp only [Act.put, List.setIfInBounds_toArray, List.set_cons_zero, List.set_cons_succ, i64_w, i32_w]
        rfl
       refine pure_ (i := 29) (N := some 51) (v := undef) (a' := ?_) (tb 32 1073741823) rfl rfl (any_of HT_.out (by kernel_rfl)) (fun _ _ _ h => h) (Or.inr ⟨by rfl, rfl⟩) ?_ ?_
       rotate_left
       ·simp only [Act.put, List.setIfInBounds_toArray, List.set_cons_zero, List.set_cons_succ, i64_w, i32_w]
        rfl
       refine pA (i := 30) (N := some 52) (tb 32 2147483647) (any_of HT_.out (by kernel_rfl)) ?_
       refine pA (i := 31) (N := some 2) (tb 32 4294967295) (any_of HT_.out (by kernel_rfl)) ?_
       refine done_ (done_of HT_.out (by kernel_rfl)) ?_
       try go_wp2
       go_ret
       exact ⟨by first | rfl | (simp [errW_none, errW_some] <;> rfl) | (simp [*, errW_none, errW_some] <;> rfl), by repeat (first | (with_reducible first | exact HB.out | apply below_alloc | apply pw_below_drewN | apply below_drew1 | refine below_set ?_ GE179.out) | exact HB.out)⟩
     ·rw [if_neg c14] at H
      have c14b0 : decide (a0_2 ≤ t180) = false := decide_eq_false c14
      clear c14
      obtain rfl := Option.some.inj H
      try go_wp2
      replace BK179 := Aside0.mk (blk_drew BK179.out)
      replace HB := Aside0.mk (below_drew1 HB.out)
      refine start_ (n := 32) (S := fun w' => w'.cell? ⟨gb179, 0, none⟩ = some (.int .i64 a0_0) ∧ w'.cell? ⟨gb179, 1, none⟩ = some (.int .i64 a0_1) ∧ w'.cell? ⟨gb179, 2, none⟩ = some (.int .i64 a0_2) ∧ w'.cell? ⟨gb179, 3, none⟩ = some (.int .i64 a0_3) ∧ w'.cell? ⟨gb179, 4, none⟩ = some (.int .i64 a0_4) ∧ w'.cell? ⟨gb179, 5, none⟩ = some (.int .i64 a0_5)) (ds := []) #[false, false, false, false, false, false, false, false, false, false, false, false, false, false, false, false, false, false, false, false, false, false, false, false, false, false, false, false, false, false, false, false] (by kernel_rfl) rfl rfl ⟨(blk_cell BK179.out 0).trans rfl, (blk_cell BK179.out 1).trans rfl, (blk_cell BK179.out 2).trans rfl, (blk_cell BK179.out 3).trans rfl, (blk_cell BK179.out 4).trans rfl, (blk_cell BK179.out 5).trans rfl⟩ (fun hHeld => ?_); refine with_tabW datetime_valid.tab4 datetime_valid.bits4 (fun HT_ HW_ => ?_)
      generalize wc.drew = w26 at BK179 HB hHeld ⊢
      refine pA (i := 0) (N := some 22) (tb 32 1) (any_of HT_.out (by kernel_rfl)) ?_
      refine take_ (i := 1) (N := some 23) (v := ?_) (a' := ?_) (tb 32 3) rfl rfl (take_ofW HT_.out HW_.out (by kernel_rfl)) (fun _ _ _ h => h) (Or.inl ⟨by rfl, ?_⟩) hHeld ?_ ?_
      rotate_left
      ·rintro w' ⟨s0, s1, s2, s3, s4, s5⟩
       go_simp
       with_reducible rfl
      rotate_left
      ·simp only [Act.put, List.setIfInBounds_toArray, List.set_cons_zero, List.set_cons_succ, i64_w, i32_w]
       rfl
      refine pA (i := 2) (N := some 24) (tb 32 7) (any_of HT_.out (by kernel_rfl)) ?_
      refine pA (i := 3) (N := some 25) (tb 32 15) (any_of HT_.out (by kernel_rfl)) ?_
      refine pA (i := 4) (N := some 26) (tb 32 31) (any_of HT_.out (by kernel_rfl)) ?_
      refine pA (i := 6) (N := some 28) (tb 32 95) (any_of HT_.out (by kernel_rfl)) ?_
      refine pA (i := 8) (N := some 30) (tb 32 351) (any_of HT_.out (by kernel_rfl)) ?_
      refine take_ (i := 5) (N := some 27) (v := ?_) (a' := ?_) (tb 32 383) rfl rfl (take_ofW HT_.out HW_.out (by kernel_rfl)) (fun _ _ _ h => h) (Or.inl ⟨by rfl, ?_⟩) hHeld ?_ ?_
      rotate_left
      ·rintro w' ⟨s0, s1, s2, s3, s4, s5⟩
       go_simp
       with_reducible rfl
      rotate_left
      ·simp only [Act.put, List.setIfInBounds_toArray, List.set_cons_zero, List.set_cons_succ, i64_w, i32_w]
       rfl
      refine take_ (i := 7) (N := some 29) (v := ?_) (a' := ?_) (tb 32 511) rfl rfl (take_ofW HT_.out HW_.out (by kernel_rfl)) (fun _ _ _ h => h) (Or.inl ⟨by rfl, ?_⟩) hHeld ?_ ?_
      rotate_left
      ·rintro w' ⟨s0, s1, s2, s3, s4, s5⟩
       go_simp
       with_reducible rfl
      rotate_left
      ·simp only [Act.put, List.setIfInBounds_toArray, List.set_cons_zero, List.set_cons_succ, i64_w, i32_w]
       rfl
      refine take_ (i := 9) (N := some 31) (v := ?_) (a' := ?_) (tb 32 1023) rfl rfl (take_ofW HT_.out HW_.out (by kernel_rfl)) (fun _ _ _ h => h) (Or.inl ⟨by rfl, ?_⟩) hHeld ?_ ?_
      rotate_left
      ·rintro w' ⟨s0, s1, s2, s3, s4, s5⟩
       go_simp
       with_reducible rfl
      rotate_left
      ·simp only [Act.put, List.setIfInBounds_toArray, List.set_cons_zero, List.set_cons_succ, i64_w, i32_w]
       rfl
      refine one_ (i := 10) (N := some 32) (tb 32 2047) rfl rfl (one_of HT_.out (by kernel_rfl)) (by decide) (fun K hK => ?_)
      (first | (refine goes_ Tryz.func119 (by kernel_rfl) rfl #[.int .i64 a0_0, .int .i64 a0_1] (by rfl) rfl rfl (by (try simp only [List.map_toArray, List.map_cons, List.map_nil]); first | done | rfl | (simp only [List.length_drop, List.length_take]; rfl)) ?_) | (refine goesV_ Tryz.func119 (by kernel_rfl) rfl #[.int .i64 a0_0, .int .i64 a0_1] (by rfl) rfl rfl (by rfl) (by (try simp only [List.map_toArray, List.map_cons, List.map_nil]); first | done | rfl | (simp only [List.length_drop, List.length_take]; rfl)) ?_))
      with_reducible refine (datetime_monthDays.calls a0_0 a0_1 t180 _ A13.out).mono ?_
      rintro e w27 ⟨rfl, hb⟩
      refine ⟨_, rfl, ?_⟩
      replace BK179 := Aside0.mk (blk_below (g := gb179) (o := .cells #[.int .i64 a0_0, .int .i64 a0_1, .int .i64 a0_2, .int .i64 a0_3, .int .i64 a0_4, .int .i64 a0_5] 119 (0, 0)) (by (with_reducible repeat (first | refine blk_drewN ?_ _ | refine blk_drew ?_ | refine blk_alloc ?_ _)); exact BK179.out) hb)
      replace HB := Aside0.mk (below_step (by repeat (first | (with_reducible first | exact HB.out | apply below_alloc | apply pw_below_drewN | apply below_drew1 | refine below_set ?_ GE179.out) | exact HB.out)) hb)
      (try clear hb)
      (try clear hb2)
      (try clear hk)
      (try clear hi)
      refine hK.out _ _ ⟨(blk_cell BK179.out 0).trans rfl, (blk_cell BK179.out 1).trans rfl, (blk_cell BK179.out 2).trans rfl, (blk_cell BK179.out 3).trans rfl, (blk_cell BK179.out 4).trans rfl, (blk_cell BK179.out 5).trans rfl⟩ (fun hHeld => ?_)
      clear hK K
      refine norm_ (a' := ?_) ?_ ?_
      rotate_left
      ·show Act.put _ (some 32) _ = _
       simp only [Act.put, List.setIfInBounds_toArray, List.set_cons_zero, List.set_cons_succ, i64_w, i32_w]
       rfl
      refine pA (i := 11) (N := some 33) (tb 32 4095) (any_of HT_.out (by kernel_rfl)) ?_
      refine pA (i := 12) (N := some 34) (tb 32 8191) (any_of HT_.out (by kernel_rfl)) ?_
      refine pA (i := 13) (N := some 35) (tb 32 16383) (any_of HT_.out (by kernel_rfl)) ?_
      refine pure_ (i := 14) (N := some 36) (v := undef) (a' := ?_) (tb 32 32767) rfl rfl (any_of HT_.out (by kernel_rfl)) (fun _ _ _ h => h) (Or.inr ⟨by rfl, rfl⟩) ?_ ?_
      rotate_left
      ·simp only [Act.put, List.setIfInBounds_toArray, List.set_cons_zero, List.set_cons_succ, i64_w, i32_w]
       rfl
      refine pure_ (i := 15) (N := some 37) (v := undef) (a' := ?_) (tb 32 65535) rfl rfl (any_of HT_.out (by kernel_rfl)) (fun _ _ _ h => h) (Or.inr ⟨by rfl, rfl⟩) ?_ ?_
      rotate_left
      ·simp only [Act.put, List.setIfInBounds_toArray, List.set_cons_zero, List.set_cons_succ, i64_w, i32_w]
       rfl
      refine pure_ (i := 16) (N := some 38) (v := undef) (a' := ?_) (tb 32 131071) rfl rfl (any_of HT_.out (by kernel_rfl)) (fun _ _ _ h => h) (Or.inr ⟨by rfl, rfl⟩) ?_ ?_
      rotate_left
      ·simp only [Act.put, List.setIfInBounds_toArray, List.set_cons_zero, List.set_cons_succ, i64_w, i32_w]
       rfl
      refine pure_ (i := 17) (N := some 39) (v := undef) (a' := ?_) (tb 32 262143) rfl rfl (any_of HT_.out (by kernel_rfl)) (fun _ _ _ h => h) (Or.inr ⟨by rfl, rfl⟩) ?_ ?_
      rotate_left
      ·simp only [Act.put, List.setIfInBounds_toArray, List.set_cons_zero, List.set_cons_succ, i64_w, i32_w]
       rfl
      refine pA (i := 18) (N := some 40) (tb 32 524287) (any_of HT_.out (by kernel_rfl)) ?_
      refine pA (i := 19) (N := some 41) (tb 32 1048575) (any_of HT_.out (by kernel_rfl)) ?_
      refine pure_ (i := 20) (N := some 42) (v := undef) (a' := ?_) (tb 32 2097151) rfl rfl (any_of HT_.out (by kernel_rfl)) (fun _ _ _ h => h) (Or.inr ⟨by rfl, rfl⟩) ?_ ?_
      rotate_left
      ·simp only [Act.put, List.setIfInBounds_toArray, List.set_cons_zero, List.set_cons_succ, i64_w, i32_w]
       rfl
      refine pure_ (i := 21) (N := some 43) (v := undef) (a' := ?_) (tb 32 4194303) rfl rfl (any_of HT_.out (by kernel_rfl)) (fun _ _ _ h => h) (Or.inr ⟨by rfl, rfl⟩) ?_ ?_
      rotate_left
      ·simp only [Act.put, List.setIfInBounds_toArray, List.set_cons_zero, List.set_cons_succ, i64_w, i32_w]
       rfl
      refine pure_ (i := 22) (N := some 44) (v := undef) (a' := ?_) (tb 32 8388607) rfl rfl (any_of HT_.out (by kernel_rfl)) (fun _ _ _ h => h) (Or.inr ⟨by rfl, rfl⟩) ?_ ?_
      rotate_left
      ·simp only [Act.put, List.setIfInBounds_toArray, List.set_cons_zero, List.set_cons_succ, i64_w, i32_w]
       rfl
      refine pure_ (i := 23) (N := some 45) (v := undef) (a' := ?_) (tb 32 16777215) rfl rfl (any_of HT_.out (by kernel_rfl)) (fun _ _ _ h => h) (Or.inr ⟨by rfl, rfl⟩) ?_ ?_
      rotate_left
      ·simp only [Act.put, List.setIfInBounds_toArray, List.set_cons_zero, List.set_cons_succ, i64_w, i32_w]
       rfl
      refine pA (i := 24) (N := some 46) (tb 32 33554431) (any_of HT_.out (by kernel_rfl)) ?_
      refine pA (i := 25) (N := some 47) (tb 32 67108863) (any_of HT_.out (by kernel_rfl)) ?_
      refine pure_ (i := 26) (N := some 48) (v := undef) (a' := ?_) (tb 32 134217727) rfl rfl (any_of HT_.out (by kernel_rfl)) (fun _ _ _ h => h) (Or.inr ⟨by rfl, rfl⟩) ?_ ?_
      rotate_left
      ·simp only [Act.put, List.setIfInBounds_toArray, List.set_cons_zero, List.set_cons_succ, i64_w, i32_w]
       rfl
      refine pure_ (i := 27) (N := some 49) (v := undef) (a' := ?_) (tb 32 268435455) rfl rfl (any_of HT_.out (by kernel_rfl)) (fun _ _ _ h => h) (Or.inr ⟨by rfl, rfl⟩) ?_ ?_
      rotate_left
      ·simp only [Act.put, List.setIfInBounds_toArray, List.set_cons_zero, List.set_cons_succ, i64_w, i32_w]
       rfl
      refine pure_ (i := 28) (N := some 50) (v := undef) (a' := ?_) (tb 32 536870911) rfl rfl (any_of HT_.out (by kernel_rfl)) (fun _ _ _ h => h) (Or.inr ⟨by rfl, rfl⟩) ?_ ?_
      rotate_left
      ·simp only [Act.put, List.setIfInBounds_toArray, List.set_cons_zero, List.set_cons_succ, i64_w, i32_w]
       rfl
      refine pure_ (i := 29) (N := some 51) (v := undef) (a' := ?_) (tb 32 1073741823) rfl rfl (any_of HT_.out (by kernel_rfl)) (fun _ _ _ h => h) (Or.inr ⟨by rfl, rfl⟩) ?_ ?_
      rotate_left
      ·simp only [Act.put, List.setIfInBounds_toArray, List.set_cons_zero, List.set_cons_succ, i64_w, i32_w]
       rfl
      refine pA (i := 30) (N := some 52) (tb 32 2147483647) (any_of HT_.out (by kernel_rfl)) ?_
      refine pA (i := 31) (N := some 2) (tb 32 4294967295) (any_of HT_.out (by kernel_rfl)) ?_
      refine done_ (done_of HT_.out (by kernel_rfl)) ?_
      try go_wp2
      go_ret
      exact ⟨by first | rfl | (simp [errW_none, errW_some] <;> rfl) | (simp [*, errW_none, errW_some] <;> rfl), by repeat (first | (with_reducible first | exact HB.out | apply below_alloc | apply pw_below_drewN | apply below_drew1 | refine below_set ?_ GE179.out) | exact HB.out)⟩
    ·rw [if_neg c12] at H
     have c12b0 : decide (1 ≤ a0_2) = false := decide_eq_false c12
     clear c12
     obtain rfl := Option.some.inj H
     try go_wp2
     replace BK179 := Aside0.mk (blk_drew BK179.out)
     replace HB := Aside0.mk (below_drew1 HB.out)
     refine start_ (n := 32) (S := fun w' => w'.cell? ⟨gb179, 0, none⟩ = some (.int .i64 a0_0) ∧ w'.cell? ⟨gb179, 1, none⟩ = some (.int .i64 a0_1) ∧ w'.cell? ⟨gb179, 2, none⟩ = some (.int .i64 a0_2) ∧ w'.cell? ⟨gb179, 3, none⟩ = some (.int .i64 a0_3) ∧ w'.cell? ⟨gb179, 4, none⟩ = some (.int .i64 a0_4) ∧ w'.cell? ⟨gb179, 5, none⟩ = some (.int .i64 a0_5)) (ds := []) #[false, false, false, false, false, false, false, false, false, false, false, false, false, false, false, false, false, false, false, false, false, false, false, false, false, false, false, false, false, false, false, false] (by kernel_rfl) rfl rfl ⟨(blk_cell BK179.out 0).trans rfl, (blk_cell BK179.out 1).trans rfl, (blk_cell BK179.out 2).trans rfl, (blk_cell BK179.out 3).trans rfl, (blk_cell BK179.out 4).trans rfl, (blk_cell BK179.out 5).trans rfl⟩ (fun hHeld => ?_); refine with_tabW datetime_valid.tab4 datetime_valid.bits4 (fun HT_ HW_ => ?_)
     generalize wc.drew = w28 at BK179 HB hHeld ⊢
     refine pA (i := 0) (N := some 22) (tb 32 1) (any_of HT_.out (by kernel_rfl)) ?_
     refine take_ (i := 1) (N := some 23) (v := ?_) (a' := ?_) (tb 32 3) rfl rfl (take_ofW HT_.out HW_.out (by kernel_rfl)) (fun _ _ _ h => h) (Or.inl ⟨by rfl, ?_⟩) hHeld ?_ ?_
     rotate_left
     ·rintro w' ⟨s0, s1, s2, s3, s4, s5⟩
      go_simp
      with_reducible rfl
     rotate_left
     ·simp only [Act.put, List.setIfInBounds_toArray, List.set_cons_zero, List.set_cons_succ, i64_w, i32_w]
      rfl
     refine pA (i := 2) (N := some 24) (tb 32 7) (any_of HT_.out (by kernel_rfl)) ?_
     refine pA (i := 3) (N := some 25) (tb 32 15) (any_of HT_.out (by kernel_rfl)) ?_
     refine pure_ (i := 4) (N := some 26) (v := undef) (a' := ?_) (tb 32 31) rfl rfl (any_of HT_.out (by kernel_rfl)) (fun _ _ _ h => h) (Or.inr ⟨by rfl, rfl⟩) ?_ ?_
     rotate_left
     ·simp only [Act.put, List.setIfInBounds_toArray, List.set_cons_zero, List.set_cons_succ, i64_w, i32_w]
      rfl
     refine pure_ (i := 5) (N := some 27) (v := undef) (a' := ?_) (tb 32 63) rfl rfl (any_of HT_.out (by kernel_rfl)) (fun _ _ _ h => h) (Or.inr ⟨by rfl, rfl⟩) ?_ ?_
     rotate_left
     ·simp only [Act.put, List.setIfInBounds_toArray, List.set_cons_zero, List.set_cons_succ, i64_w, i32_w]
      rfl
     refine pure_ (i := 6) (N := some 28) (v := undef) (a' := ?_) (tb 32 127) rfl rfl (any_of HT_.out (by kernel_rfl)) (fun _ _ _ h => h) (Or.inr ⟨by rfl, rfl⟩) ?_ ?_
     rotate_left
     ·simp only [Act.put, List.setIfInBounds_toArray, List.set_cons_zero, List.set_cons_succ, i64_w, i32_w]
      rfl
     refine pure_ (i := 7) (N := some 29) (v := undef) (a' := ?_) (tb 32 255) rfl rfl (any_of HT_.out (by kernel_rfl)) (fun _ _ _ h => h) (Or.inr ⟨by rfl, rfl⟩) ?_ ?_
     rotate_left
     ·simp only [Act.put, List.setIfInBounds_toArray, List.set_cons_zero, List.set_cons_succ, i64_w, i32_w]
      rfl
     refine pure_ (i := 8) (N := some 30) (v := undef) (a' := ?_) (tb 32 511) rfl rfl (any_of HT_.out (by kernel_rfl)) (fun _ _ _ h => h) (Or.inr ⟨by rfl, rfl⟩) ?_ ?_
     rotate_left
     ·simp only [Act.put, List.setIfInBounds_toArray, List.set_cons_zero, List.set_cons_succ, i64_w, i32_w]
      rfl
     refine pure_ (i := 9) (N := some 31) (v := undef) (a' := ?_) (tb 32 1023) rfl rfl (any_of HT_.out (by kernel_rfl)) (fun _ _ _ h => h) (Or.inr ⟨by rfl, rfl⟩) ?_ ?_
     rotate_left
     ·simp only [Act.put, List.setIfInBounds_toArray, List.set_cons_zero, List.set_cons_succ, i64_w, i32_w]
      rfl
     refine pure_ (i := 10) (N := some 32) (v := undef) (a' := ?_) (tb 32 2047) rfl rfl (any_of HT_.out (by kernel_rfl)) (fun _ _ _ h => h) (Or.inr ⟨by rfl, rfl⟩) ?_ ?_
     rotate_left
     ·simp only [Act.put, List.setIfInBounds_toArray, List.set_cons_zero, List.set_cons_succ, i64_w, i32_w]
      rfl
     refine pure_ (i := 11) (N := some 33) (v := undef) (a' := ?_) (tb 32 4095) rfl rfl (any_of HT_.out (by kernel_rfl)) (fun _ _ _ h => h) (Or.inr ⟨by rfl, rfl⟩) ?_ ?_
     rotate_left
     ·simp only [Act.put, List.setIfInBounds_toArray, List.set_cons_zero, List.set_cons_succ, i64_w, i32_w]
      rfl
     refine pA (i := 12) (N := some 34) (tb 32 8191) (any_of HT_.out (by kernel_rfl)) ?_
     refine pA (i := 13) (N := some 35) (tb 32 16383) (any_of HT_.out (by kernel_rfl)) ?_
     refine pure_ (i := 14) (N := some 36) (v := undef) (a' := ?_) (tb 32 32767) rfl rfl (any_of HT_.out (by kernel_rfl)) (fun _ _ _ h => h) (Or.inr ⟨by rfl, rfl⟩) ?_ ?_
     rotate_left
     ·simp only [Act.put, List.setIfInBounds_toArray, List.set_cons_zero, List.set_cons_succ, i64_w, i32_w]
      rfl
     refine pure_ (i := 15) (N := some 37) (v := undef) (a' := ?_) (tb 32 65535) rfl rfl (any_of HT_.out (by kernel_rfl)) (fun _ _ _ h => h) (Or.inr ⟨by rfl, rfl⟩) ?_ ?_
     rotate_left
     ·simp only [Act.put, List.setIfInBounds_toArray, List.set_cons_zero, List.set_cons_succ, i64_w, i32_w]
      rfl
     refine pure_ (i := 16) (N := some 38) (v := undef) (a' := ?_) (tb 32 131071) rfl rfl (any_of HT_.out (by kernel_rfl)) (fun _ _ _ h => h) (Or.inr ⟨by rfl, rfl⟩) ?_ ?_
     rotate_left
     ·simp only [Act.put, List.setIfInBounds_toArray, List.set_cons_zero, List.set_cons_succ, i64_w, i32_w]
      rfl
     refine pure_ (i := 17) (N := some 39) (v := undef) (a' := ?_) (tb 32 262143) rfl rfl (any_of HT_.out (by kernel_rfl)) (fun _ _ _ h => h) (Or.inr ⟨by rfl, rfl⟩) ?_ ?_
     rotate_left
     ·simp only [Act.put, List.setIfInBounds_toArray, List.set_cons_zero, List.set_cons_succ, i64_w, i32_w]
      rfl
     refine pA (i := 18) (N := some 40) (tb 32 524287) (any_of HT_.out (by kernel_rfl)) ?_
     refine pA (i := 19) (N := some 41) (tb 32 1048575) (any_of HT_.out (by kernel_rfl)) ?_
     refine pure_ (i := 20) (N := some 42) (v := undef) (a' := ?_) (tb 32 2097151) rfl rfl (any_of HT_.out (by kernel_rfl)) (fun _ _ _ h => h) (Or.inr ⟨by rfl, rfl⟩) ?_ ?_
     rotate_left
     ·simp only [Act.put, List.setIfInBounds_toArray, List.set_cons_zero, List.set_cons_succ, i64_w, i32_w]
      rfl
     refine pure_ (i := 21) (N := some 43) (v := undef) (a' := ?_) (tb 32 4194303) rfl rfl (any_of HT_.out (by kernel_rfl)) (fun _ _ _ h => h) (Or.inr ⟨by rfl, rfl⟩) ?_ ?_
     rotate_left
     ·simp only [Act.put, List.setIfInBounds_toArray, List.set_cons_zero, List.set_cons_succ, i64_w, i32_w]
      rfl
     refine pure_ (i := 22) (N := some 44) (v := undef) (a' := ?_) (tb 32 8388607) rfl rfl (any_of HT_.out (by kernel_rfl)) (fun _ _ _ h => h) (Or.inr ⟨by rfl, rfl⟩) ?_ ?_
     rotate_left
     ·simp only [Act.put, List.setIfInBounds_toArray, List.set_cons_zero, List.set_cons_succ, i64_w, i32_w]
      rfl
     refine pure_ (i := 23) (N := some 45) (v := undef) (a' := ?_) (tb 32 16777215) rfl rfl (any_of HT_.out (by kernel_rfl)) (fun _ _ _ h => h) (Or.inr ⟨by rfl, rfl⟩) ?_ ?_
     rotate_left
     ·simp only [Act.put, List.setIfInBounds_toArray, List.set_cons_zero, List.set_cons_succ, i64_w, i32_w]
      rfl
     refine pA (i := 24) (N := some 46) (tb 32 33554431) (any_of HT_.out (by kernel_rfl)) ?_
     refine pA (i := 25) (N := some 47) (tb 32 67108863) (any_of HT_.out (by kernel_rfl)) ?_
     refine pure_ (i := 26) (N := some 48) (v := undef) (a' := ?_) (tb 32 134217727) rfl rfl (any_of HT_.out (by kernel_rfl)) (fun _ _ _ h => h) (Or.inr ⟨by rfl, rfl⟩) ?_ ?_
     rotate_left
     ·simp only [Act.put, List.setIfInBounds_toArray, List.set_cons_zero, List.set_cons_succ, i64_w, i32_w]
      rfl
     refine pure_ (i := 27) (N := some 49) (v := undef) (a' := ?_) (tb 32 268435455) rfl rfl (any_of HT_.out (by kernel_rfl)) (fun _ _ _ h => h) (Or.inr ⟨by rfl, rfl⟩) ?_ ?_
     rotate_left
     ·simp only [Act.put, List.setIfInBounds_toArray, List.set_cons_zero, List.set_cons_succ, i64_w, i32_w]
      rfl
     refine pure_ (i := 28) (N := some 50) (v := undef) (a' := ?_) (tb 32 536870911) rfl rfl (any_of HT_.out (by kernel_rfl)) (fun _ _ _ h => h) (Or.inr ⟨by rfl, rfl⟩) ?_ ?_
     rotate_left
     ·simp only [Act.put, List.setIfInBounds_toArray, List.set_cons_zero, List.set_cons_succ, i64_w, i32_w]
      rfl
     refine pure_ (i := 29) (N := some 51) (v := undef) (a' := ?_) (tb 32 1073741823) rfl rfl (any_of HT_.out (by kernel_rfl)) (fun _ _ _ h => h) (Or.inr ⟨by rfl, rfl⟩) ?_ ?_
     rotate_left
     ·simp only [Act.put, List.setIfInBounds_toArray, List.set_cons_zero, List.set_cons_succ, i64_w, i32_w]
      rfl
     refine pA (i := 30) (N := some 52) (tb 32 2147483647) (any_of HT_.out (by kernel_rfl)) ?_
     refine pA (i := 31) (N := some 2) (tb 32 4294967295) (any_of HT_.out (by kernel_rfl)) ?_
     refine done_ (done_of HT_.out (by kernel_rfl)) ?_
     try go_wp2
     go_ret
     exact ⟨by first | rfl | (simp [errW_none, errW_some] <;> rfl) | (simp [*, errW_none, errW_some] <;> rfl), by repeat (first | (with_reducible first | exact HB.out | apply below_alloc | apply pw_below_drewN | apply below_drew1 | refine below_set ?_ GE179.out) | exact HB.out)⟩

end Go.Proofs.YthblghfobnhoeaaGreat.A
namespace Go.Proofs.YthblghfobnhoeaaGreat.A
open Go.RowKit Go.Proofs.YthblghfobnhoeaaGreat.H Go.Proofs.YthblghfobnhoeaaGreatW.PrintWords Go.Proofs.YthblghfobnhoeaaGreatW.PrintLast Go.Proofs.YthblghfobnhoeaaGreatW.PrintMore
attribute [local go_sem] max2_int min2_int max_two min_two max_three min_three max_four min_four   -- for this text's walks alone
set_option linter.unusedVariables false
set_option linter.unusedSimpArgs false

/-! ### datetime_seconds: function 138 -/
mutual
def datetime_seconds.l0 : Nat → Int → Int → Int → Int → Int → Int → Int → Int → Option (Int)
 | 0, _, _, _, _, _, _, _, _ => none
 | k + 1, x3, x4, x185000, x185001, x185002, x185003, x185004, x185005 => if x4 < x185001 then ((datetime_monthDays.f x185000 x4).bind fun t185 => (datetime_seconds.l0 k (wrap64 (x3 + t185)) (wrap64 (x4 + 1)) x185000 x185001 x185002 x185003 x185004 x185005)) else (datetime_seconds.l1 k x3 1970 x185000 x185001 x185002 x185003 x185004 x185005)
def datetime_seconds.l1 : Nat → Int → Int → Int → Int → Int → Int → Int → Int → Option (Int)
 | 0, _, _, _, _, _, _, _, _ => none
 | k + 1, x3, x5, x185000, x185001, x185002, x185003, x185004, x185005 => if x5 < x185000 then ((datetime_yearDays.f x5).bind fun t186 => (datetime_seconds.l1 k (wrap64 (x3 + t186)) (wrap64 (x5 + 1)) x185000 x185001 x185002 x185003 x185004 x185005)) else (datetime_seconds.l2 k x3 x185000 x185000 x185001 x185002 x185003 x185004 x185005)
def datetime_seconds.l2 : Nat → Int → Int → Int → Int → Int → Int → Int → Int → Option (Int)
 | 0, _, _, _, _, _, _, _, _ => none
 | k + 1, x3, x6, x185000, x185001, x185002, x185003, x185004, x185005 => if x6 < 1970 then ((datetime_yearDays.f x6).bind fun t187 => (datetime_seconds.l2 k (wrap64 (x3 - t187)) (wrap64 (x6 + 1)) x185000 x185001 x185002 x185003 x185004 x185005)) else (some (wrap64 ((wrap64 ((wrap64 ((wrap64 (x3 * 86400)) + (wrap64 (x185003 * 3600)))) + (wrap64 (x185004 * 60)))) + x185005)))
end
def datetime_seconds.f (k : Nat) (a0_0 : Int) (a0_1 : Int) (a0_2 : Int) (a0_3 : Int) (a0_4 : Int) (a0_5 : Int) : Option (Int) := datetime_seconds.l0 k (wrap64 (a0_2 - 1)) 1 a0_0 a0_1 a0_2 a0_3 a0_4 a0_5
theorem datetime_seconds.mono_l : ∀ k, (∀ y0 y1 y2 y3 y4 y5 y6 y7, LeO (datetime_seconds.l0 k y0 y1 y2 y3 y4 y5 y6 y7) (datetime_seconds.l0 (k + 1) y0 y1 y2 y3 y4 y5 y6 y7)) ∧ (∀ y0 y1 y2 y3 y4 y5 y6 y7, LeO (datetime_seconds.l1 k y0 y1 y2 y3 y4 y5 y6 y7) (datetime_seconds.l1 (k + 1) y0 y1 y2 y3 y4 y5 y6 y7)) ∧ (∀ y0 y1 y2 y3 y4 y5 y6 y7, LeO (datetime_seconds.l2 k y0 y1 y2 y3 y4 y5 y6 y7) (datetime_seconds.l2 (k + 1) y0 y1 y2 y3 y4 y5 y6 y7))
 | 0 => ⟨fun _ _ _ _ _ _ _ _ r h => by simp [datetime_seconds.l0] at h, fun _ _ _ _ _ _ _ _ r h => by simp [datetime_seconds.l1] at h, fun _ _ _ _ _ _ _ _ r h => by simp [datetime_seconds.l2] at h⟩
 | k + 1 => by
  obtain ⟨ih0, ih1, ih2⟩ := datetime_seconds.mono_l k
  refine ⟨?_, ?_, ?_⟩
  ·intro y0 y1 y2 y3 y4 y5 y6 y7
   unfold datetime_seconds.l0
   repeat' first
   | (with_reducible exact ih0 _ _ _ _ _ _ _ _)
   | (with_reducible exact ih1 _ _ _ _ _ _ _ _)
   | (with_reducible exact ih2 _ _ _ _ _ _ _ _)
   | (with_reducible exact LeO.refl _)
   | (with_reducible exact LeO.none _)
   | (with_reducible refine LeO.ite ?_ ?_)
   | (with_reducible refine LeO.bind ?_ (fun _ => ?_))
   | exact ih0 _ _ _ _ _ _ _ _
   | exact ih1 _ _ _ _ _ _ _ _
   | exact ih2 _ _ _ _ _ _ _ _
   | exact LeO.none _
   | refine LeO.ite ?_ ?_
   | refine LeO.bind ?_ (fun _ => ?_)
  ·intro y0 y1 y2 y3 y4 y5 y6 y7
   unfold datetime_seconds.l1
   repeat' first
   | (with_reducible exact ih0 _ _ _ _ _ _ _ _)
   | (with_reducible exact ih1 _ _ _ _ _ _ _ _)
   | (with_reducible exact ih2 _ _ _ _ _ _ _ _)
   | (with_reducible exact LeO.refl _)
   | (with_reducible exact LeO.none _)
   | (with_reducible refine LeO.ite ?_ ?_)
   | (with_reducible refine LeO.bind ?_ (fun _ => ?_))
   | exact ih0 _ _ _ _ _ _ _ _
   | exact ih1 _ _ _ _ _ _ _ _
   | exact ih2 _ _ _ _ _ _ _ _
   | exact LeO.none _
   | refine LeO.ite ?_ ?_
   | refine LeO.bind ?_ (fun _ => ?_)
  ·intro y0 y1 y2 y3 y4 y5 y6 y7
   unfold datetime_seconds.l2
   repeat' first
   | (with_reducible exact ih0 _ _ _ _ _ _ _ _)
   | (with_reducible exact ih1 _ _ _ _ _ _ _ _)
   | (with_reducible exact ih2 _ _ _ _ _ _ _ _)
   | (with_reducible exact LeO.refl _)
   | (with_reducible exact LeO.none _)
   | (with_reducible refine LeO.ite ?_ ?_)
   | (with_reducible refine LeO.bind ?_ (fun _ => ?_))
   | exact ih0 _ _ _ _ _ _ _ _
   | exact ih1 _ _ _ _ _ _ _ _
   | exact ih2 _ _ _ _ _ _ _ _
   | exact LeO.none _
   | refine LeO.ite ?_ ?_
   | refine LeO.bind ?_ (fun _ => ?_)
theorem datetime_seconds.mono : ∀ a0 a1 a2 a3 a4 a5 k, LeO (datetime_seconds.f k a0 a1 a2 a3 a4 a5) (datetime_seconds.f (k + 1) a0 a1 a2 a3 a4 a5) := by
 intro a0 a1 a2 a3 a4 a5 k
 obtain ⟨ih0, ih1, ih2⟩ := datetime_seconds.mono_l k
 unfold datetime_seconds.f
 repeat' first
   | (with_reducible exact ih0 _ _ _ _ _ _ _ _)
   | (with_reducible exact ih1 _ _ _ _ _ _ _ _)
   | (with_reducible exact ih2 _ _ _ _ _ _ _ _)
   | (with_reducible exact LeO.refl _)
   | (with_reducible exact LeO.none _)
   | (with_reducible refine LeO.ite ?_ ?_)
   | (with_reducible refine LeO.bind ?_ (fun _ => ?_))
   | exact ih0 _ _ _ _ _ _ _ _
   | exact ih1 _ _ _ _ _ _ _ _
   | exact ih2 _ _ _ _ _ _ _ _
   | exact LeO.none _
   | refine LeO.ite ?_ ?_
   | refine LeO.bind ?_ (fun _ => ?_)
set_option maxHeartbeats 8000000 in
set_option maxRecDepth 100000 in
theorem datetime_seconds.calls (k : Nat) (a0_0 : Int) (a0_1 : Int) (a0_2 : Int) (a0_3 : Int) (a0_4 : Int) (a0_5 : Int) (r : Int) (w : World) (h : datetime_seconds.f k a0_0 a0_1 a0_2 a0_3 a0_4 a0_5 = some r) :
  Calls Tryz.prog 138 #[.agg #[.int .i64 a0_0, .int .i64 a0_1, .int .i64 a0_2, .int .i64 a0_3, .int .i64 a0_4, .int .i64 a0_5]] w fun e w' => e = .returned (.int .i64 r) ∧ Below w.heap.size w w' := by
 have hu119 := Tryz.underlying119
 have HB := Aside0.mk (Below.refl w.heap.size w)
 have H : (datetime_seconds.l0 k (wrap64 (a0_2 - 1)) 1 a0_0 a0_1 a0_2 a0_3 a0_4 a0_5) = some r := h
 clear h
 have H' := Aside0.mk H
 clear H
 go_enter Tryz.func138, Tryz.ntmps138
 go_wp2_with (first | ((with_reducible refine gate_dst (N := 1) rfl ?_); refine box_event ?hg (N := 1) ?hd (cs := #[.int .i64 a0_0, .int .i64 a0_1, .int .i64 a0_2, .int .i64 a0_3, .int .i64 a0_4, .int .i64 a0_5]) (t := 119) ?hr ?_; (case hd => rfl); (case hg => rfl); (case hr => first | (go_simp; done) | (go_simp; rfl)); intro gb184 hg w2 hbox hb; have n0_ := Aside0.mk (below_step (uB HB.out) hb); have n1_ := Aside0.mk (hbox); have n2_ := Aside0.mk ((by rw [hg]; exact (below_size (uB HB.out)) : w.heap.size ≤ gb184)); have n3_ := Aside0.mk ((by rw [hg]; exact (below_size (uB HB.out)) : w.heap.size ≤ gb184)); clear HB; have HB := n0_; have BK184 := n1_; have GW184 := n2_; have GE184 := n3_; clear n0_ n1_ n2_ n3_; clear hb hbox hg; have hcz3_0 : w2.cell? ⟨gb184, 0, none⟩ = some (.int .i64 a0_0) := (blk_cell BK184.out 0).trans rfl; have hcz3_1 : w2.cell? ⟨gb184, 1, none⟩ = some (.int .i64 a0_1) := (blk_cell BK184.out 1).trans rfl; have hcz3_2 : w2.cell? ⟨gb184, 2, none⟩ = some (.int .i64 a0_2) := (blk_cell BK184.out 2).trans rfl; have hcz3_3 : w2.cell? ⟨gb184, 3, none⟩ = some (.int .i64 a0_3) := (blk_cell BK184.out 3).trans rfl; have hcz3_4 : w2.cell? ⟨gb184, 4, none⟩ = some (.int .i64 a0_4) := (blk_cell BK184.out 4).trans rfl; have hcz3_5 : w2.cell? ⟨gb184, 5, none⟩ = some (.int .i64 a0_5) := (blk_cell BK184.out 5).trans rfl; have hfz3_0 := blk_frozen BK184.out 0; have hfz3_1 := blk_frozen BK184.out 1; have hfz3_2 := blk_frozen BK184.out 2; have hfz3_3 := blk_frozen BK184.out 3; have hfz3_4 := blk_frozen BK184.out 4; have hfz3_5 := blk_frozen BK184.out 5))
 go_loopg [3, 4] k (fun kq v3 v4 w' => ∃ (x3_1 : Int) (x4_1 : Int), v3 = .int .i64 x3_1 ∧ v4 = .int .i64 x4_1 ∧ Aside0 (datetime_seconds.l0 kq x3_1 x4_1 a0_0 a0_1 a0_2 a0_3 a0_4 a0_5 = some r) ∧ Aside0 (kq ≤ k) ∧ Aside0 (w'.heap[gb184]? = some (.cells #[.int .i64 a0_0, .int .i64 a0_1, .int .i64 a0_2, .int .i64 a0_3, .int .i64 a0_4, .int .i64 a0_5] 119 (0, 0))) ∧ Aside0 (Below w.heap.size w w'))
 case atStart => exact ⟨(wrap64 (a0_2 - 1)), (1), (by first | rfl | (simp; done) | (simp [*]; done)), (by first | rfl | (simp; done) | (simp [*]; done)), H', ⟨Nat.le_refl _⟩, ⟨by (with_reducible repeat (first | refine blk_drewN ?_ _ | refine blk_drew ?_ | refine blk_alloc ?_ _)); exact BK184.out⟩, ⟨by repeat (first | (with_reducible first | exact HB.out | apply below_alloc | apply pw_below_drewN | apply below_drew1 | refine below_set ?_ GE184.out) | exact HB.out)⟩⟩
 case round =>
  clear H'
  try clear c1
  try clear p2
  try clear hcz3_0
  try clear hcz3_1
  try clear hcz3_2
  try clear hcz3_3
  try clear hcz3_4
  try clear hcz3_5
  try clear hfz3_0
  try clear hfz3_1
  try clear hfz3_2
  try clear hfz3_3
  try clear hfz3_4
  try clear hfz3_5
  obtain ⟨x3_1, x4_1, rfl, rfl, HA, HK1, BK184, HB⟩ := hrel
  cases gk with
  | zero => exact absurd HA.out (by simp [datetime_seconds.l0])
  | succ k1 =>
   have H := HA.out
   clear HA
   simp only [datetime_seconds.l0] at H
   by_cases c4 : x4_1 < a0_1
   ·rw [if_pos c4] at H
    have c4b0 : decide (x4_1 < a0_1) = true := decide_eq_true c4
    clear c4
    replace H := Option.bind_eq_some_iff.mp H
    obtain ⟨t185, A50, H⟩ := H
    replace H : (datetime_seconds.l0 k1 (wrap64 (x3_1 + t185)) (wrap64 (x4_1 + 1)) a0_0 a0_1 a0_2 a0_3 a0_4 a0_5) = some r := H
    have A5 := Aside0.mk A50
    clear A50
    have H' := Aside0.mk H
    clear H
    have hcz6_0 : wr.cell? ⟨gb184, 0, none⟩ = some (.int .i64 a0_0) := (blk_cell BK184.out 0).trans rfl
    have hcz6_1 : wr.cell? ⟨gb184, 1, none⟩ = some (.int .i64 a0_1) := (blk_cell BK184.out 1).trans rfl
    have hcz6_2 : wr.cell? ⟨gb184, 2, none⟩ = some (.int .i64 a0_2) := (blk_cell BK184.out 2).trans rfl
    have hcz6_3 : wr.cell? ⟨gb184, 3, none⟩ = some (.int .i64 a0_3) := (blk_cell BK184.out 3).trans rfl
    have hcz6_4 : wr.cell? ⟨gb184, 4, none⟩ = some (.int .i64 a0_4) := (blk_cell BK184.out 4).trans rfl
    have hcz6_5 : wr.cell? ⟨gb184, 5, none⟩ = some (.int .i64 a0_5) := (blk_cell BK184.out 5).trans rfl
    have hfz6_0 := blk_frozen BK184.out 0
    have hfz6_1 := blk_frozen BK184.out 1
    have hfz6_2 := blk_frozen BK184.out 2
    have hfz6_3 := blk_frozen BK184.out 3
    have hfz6_4 := blk_frozen BK184.out 4
    have hfz6_5 := blk_frozen BK184.out 5
    go_wp2_with (first | ((with_reducible refine gate_callee (f := 119) rfl ?_); refine gL (some 20) Tryz.func119 #[.int .i64 a0_0, .int .i64 x4_1] ?_; (with_reducible refine (datetime_monthDays.calls a0_0 x4_1 t185 _ A5.out).mono ?_); rintro e w7 ⟨rfl, hb⟩; refine ⟨_, rfl, ?_⟩; have n0_ := Aside0.mk (blk_below (g := gb184) (o := .cells #[.int .i64 a0_0, .int .i64 a0_1, .int .i64 a0_2, .int .i64 a0_3, .int .i64 a0_4, .int .i64 a0_5] 119 (0, 0)) (by (with_reducible repeat (first | refine blk_drewN ?_ _ | refine blk_drew ?_ | refine blk_alloc ?_ _)); exact BK184.out) hb); have n1_ := Aside0.mk (below_step (by repeat (first | (with_reducible first | exact HB.out | apply below_alloc | apply pw_below_drewN | apply below_drew1 | refine below_set ?_ GE184.out) | exact HB.out)) hb); clear BK184; clear HB; have BK184 := n0_; have HB := n1_; clear n0_ n1_; (try clear hb); (try clear hb2); (try clear hk); (try clear hi)))
    go_roundg k1
    case measure => have := HK1.out; omega
    case rel => exact ⟨(wrap64 (x3_1 + t185)), (wrap64 (x4_1 + 1)), (by first | rfl | (simp; done) | (simp [*]; done)), (by first | rfl | (simp; done) | (simp [*]; done)), H', ⟨by have := HK1.out; omega⟩, ⟨by (with_reducible repeat (first | refine blk_drewN ?_ _ | refine blk_drew ?_ | refine blk_alloc ?_ _)); exact BK184.out⟩, ⟨by repeat (first | (with_reducible first | exact HB.out | apply below_alloc | apply pw_below_drewN | apply below_drew1 | refine below_set ?_ GE184.out) | exact HB.out)⟩⟩
   ·rw [if_neg c4] at H
    have c4b0 : decide (x4_1 < a0_1) = false := decide_eq_false c4
    clear c4
    have H' := Aside0.mk H
    clear H
    have hcz8_0 : wr.cell? ⟨gb184, 0, none⟩ = some (.int .i64 a0_0) := (blk_cell BK184.out 0).trans rfl
    have hcz8_1 : wr.cell? ⟨gb184, 1, none⟩ = some (.int .i64 a0_1) := (blk_cell BK184.out 1).trans rfl
    have hcz8_2 : wr.cell? ⟨gb184, 2, none⟩ = some (.int .i64 a0_2) := (blk_cell BK184.out 2).trans rfl
    have hcz8_3 : wr.cell? ⟨gb184, 3, none⟩ = some (.int .i64 a0_3) := (blk_cell BK184.out 3).trans rfl
    have hcz8_4 : wr.cell? ⟨gb184, 4, none⟩ = some (.int .i64 a0_4) := (blk_cell BK184.out 4).trans rfl
    have hcz8_5 : wr.cell? ⟨gb184, 5, none⟩ = some (.int .i64 a0_5) := (blk_cell BK184.out 5).trans rfl
    have hfz8_0 := blk_frozen BK184.out 0
    have hfz8_1 := blk_frozen BK184.out 1
    have hfz8_2 := blk_frozen BK184.out 2
    have hfz8_3 := blk_frozen BK184.out 3
    have hfz8_4 := blk_frozen BK184.out 4
    have hfz8_5 := blk_frozen BK184.out 5
    go_wp2
    go_loopg [3, 5] k1 (fun kq v3 v5 w' => ∃ (x3_2 : Int) (x5_2 : Int), v3 = .int .i64 x3_2 ∧ v5 = .int .i64 x5_2 ∧ Aside0 (datetime_seconds.l1 kq x3_2 x5_2 a0_0 a0_1 a0_2 a0_3 a0_4 a0_5 = some r) ∧ Aside0 (kq ≤ k1) ∧ Aside0 (w'.heap[gb184]? = some (.cells #[.int .i64 a0_0, .int .i64 a0_1, .int .i64 a0_2, .int .i64 a0_3, .int .i64 a0_4, .int .i64 a0_5] 119 (0, 0))) ∧ Aside0 (Below w.heap.size w w'))
    case atStart => exact ⟨(x3_1), (1970), (by first | rfl | (simp; done) | (simp [*]; done)), (by first | rfl | (simp; done) | (simp [*]; done)), H', ⟨Nat.le_refl _⟩, ⟨by (with_reducible repeat (first | refine blk_drewN ?_ _ | refine blk_drew ?_ | refine blk_alloc ?_ _)); exact BK184.out⟩, ⟨by repeat (first | (with_reducible first | exact HB.out | apply below_alloc | apply pw_below_drewN | apply below_drew1 | refine below_set ?_ GE184.out) | exact HB.out)⟩⟩
    case round =>
     clear H'
     try clear c1
     try clear p2
     try clear c4
     try clear c4b0
     try clear p6
     try clear hcz3_0
     try clear hcz3_1
     try clear hcz3_2
     try clear hcz3_3
     try clear hcz3_4
     try clear hcz3_5
     try clear hcz6_0
     try clear hcz6_1
     try clear hcz6_2
     try clear hcz6_3
     try clear hcz6_4
     try clear hcz6_5
     try clear hcz8_0
     try clear hcz8_1
     try clear hcz8_2
     try clear hcz8_3
     try clear hcz8_4
     try clear hcz8_5
     try clear hfz3_0
     try clear hfz3_1
     try clear hfz3_2
     try clear hfz3_3
     try clear hfz3_4
     try clear hfz3_5
     try clear hfz6_0
     try clear hfz6_1
     try clear hfz6_2
     try clear hfz6_3
     try clear hfz6_4
     try clear hfz6_5
     try clear hfz8_0
     try clear hfz8_1
     try clear hfz8_2
     try clear hfz8_3
     try clear hfz8_4
     try clear hfz8_5
     try clear p2
     obtain ⟨x3_2, x5_2, rfl, rfl, HA, HK2, BK184, HB⟩ := hrel
     cases gk with
     | zero => exact absurd HA.out (by simp [datetime_seconds.l1])
     | succ k2 =>
      have H := HA.out
      clear HA
      simp only [datetime_seconds.l1] at H
      by_cases c9 : x5_2 < a0_0
      ·rw [if_pos c9] at H
       have c9b0 : decide (x5_2 < a0_0) = true := decide_eq_true c9
       clear c9
       replace H := Option.bind_eq_some_iff.mp H
       obtain ⟨t186, A100, H⟩ := H
       replace H : (datetime_seconds.l1 k2 (wrap64 (x3_2 + t186)) (wrap64 (x5_2 + 1)) a0_0 a0_1 a0_2 a0_3 a0_4 a0_5) = some r := H
       have A10 := Aside0.mk A100
       clear A100
       have H' := Aside0.mk H
       clear H
       have hcz11_0 : wr.cell? ⟨gb184, 0, none⟩ = some (.int .i64 a0_0) := (blk_cell BK184.out 0).trans rfl
       have hcz11_1 : wr.cell? ⟨gb184, 1, none⟩ = some (.int .i64 a0_1) := (blk_cell BK184.out 1).trans rfl
       have hcz11_2 : wr.cell? ⟨gb184, 2, none⟩ = some (.int .i64 a0_2) := (blk_cell BK184.out 2).trans rfl
       have hcz11_3 : wr.cell? ⟨gb184, 3, none⟩ = some (.int .i64 a0_3) := (blk_cell BK184.out 3).trans rfl
       have hcz11_4 : wr.cell? ⟨gb184, 4, none⟩ = some (.int .i64 a0_4) := (blk_cell BK184.out 4).trans rfl
       have hcz11_5 : wr.cell? ⟨gb184, 5, none⟩ = some (.int .i64 a0_5) := (blk_cell BK184.out 5).trans rfl
       have hfz11_0 := blk_frozen BK184.out 0
       have hfz11_1 := blk_frozen BK184.out 1
       have hfz11_2 := blk_frozen BK184.out 2
       have hfz11_3 := blk_frozen BK184.out 3
       have hfz11_4 := blk_frozen BK184.out 4
       have hfz11_5 := blk_frozen BK184.out 5
       go_wp2_with (first | ((with_reducible refine gate_callee (f := 118) rfl ?_); refine gL (some 30) Tryz.func118 #[.int .i64 x5_2] ?_; (with_reducible refine (datetime_yearDays.calls x5_2 t186 _ A10.out).mono ?_); rintro e w12 ⟨rfl, hb⟩; refine ⟨_, rfl, ?_⟩; have n0_ := Aside0.mk (blk_below (g := gb184) (o := .cells #[.int .i64 a0_0, .int .i64 a0_1, .int .i64 a0_2, .int .i64 a0_3, .int .i64 a0_4, .int .i64 a0_5] 119 (0, 0)) (by (with_reducible repeat (first | refine blk_drewN ?_ _ | refine blk_drew ?_ | refine blk_alloc ?_ _)); exact BK184.out) hb); have n1_ := Aside0.mk (below_step (by repeat (first | (with_reducible first | exact HB.out | apply below_alloc | apply pw_below_drewN | apply below_drew1 | refine below_set ?_ GE184.out) | exact HB.out)) hb); clear BK184; clear HB; have BK184 := n0_; have HB := n1_; clear n0_ n1_; (try clear hb); (try clear hb2); (try clear hk); (try clear hi)))
       go_roundg k2
       case measure => have := HK1.out; have := HK2.out; omega
       case rel => exact ⟨(wrap64 (x3_2 + t186)), (wrap64 (x5_2 + 1)), (by first | rfl | (simp; done) | (simp [*]; done)), (by first | rfl | (simp; done) | (simp [*]; done)), H', ⟨by have := HK1.out; have := HK2.out; omega⟩, ⟨by (with_reducible repeat (first | refine blk_drewN ?_ _ | refine blk_drew ?_ | refine blk_alloc ?_ _)); exact BK184.out⟩, ⟨by repeat (first | (with_reducible first | exact HB.out | apply below_alloc | apply pw_below_drewN | apply below_drew1 | refine below_set ?_ GE184.out) | exact HB.out)⟩⟩
      ·rw [if_neg c9] at H
       have c9b0 : decide (x5_2 < a0_0) = false := decide_eq_false c9
       clear c9
       have H' := Aside0.mk H
       clear H
       have hcz13_0 : wr.cell? ⟨gb184, 0, none⟩ = some (.int .i64 a0_0) := (blk_cell BK184.out 0).trans rfl
       have hcz13_1 : wr.cell? ⟨gb184, 1, none⟩ = some (.int .i64 a0_1) := (blk_cell BK184.out 1).trans rfl
       have hcz13_2 : wr.cell? ⟨gb184, 2, none⟩ = some (.int .i64 a0_2) := (blk_cell BK184.out 2).trans rfl
       have hcz13_3 : wr.cell? ⟨gb184, 3, none⟩ = some (.int .i64 a0_3) := (blk_cell BK184.out 3).trans rfl
       have hcz13_4 : wr.cell? ⟨gb184, 4, none⟩ = some (.int .i64 a0_4) := (blk_cell BK184.out 4).trans rfl
       have hcz13_5 : wr.cell? ⟨gb184, 5, none⟩ = some (.int .i64 a0_5) := (blk_cell BK184.out 5).trans rfl
       have hfz13_0 := blk_frozen BK184.out 0
       have hfz13_1 := blk_frozen BK184.out 1
       have hfz13_2 := blk_frozen BK184.out 2
       have hfz13_3 := blk_frozen BK184.out 3
       have hfz13_4 := blk_frozen BK184.out 4
       have hfz13_5 := blk_frozen BK184.out 5
       go_wp2
       go_loopg [3, 6] k2 (fun kq v3 v6 w' => ∃ (x3_3 : Int) (x6_3 : Int), v3 = .int .i64 x3_3 ∧ v6 = .int .i64 x6_3 ∧ Aside0 (datetime_seconds.l2 kq x3_3 x6_3 a0_0 a0_1 a0_2 a0_3 a0_4 a0_5 = some r) ∧ Aside0 (kq ≤ k2) ∧ Aside0 (w'.heap[gb184]? = some (.cells #[.int .i64 a0_0, .int .i64 a0_1, .int .i64 a0_2, .int .i64 a0_3, .int .i64 a0_4, .int .i64 a0_5] 119 (0, 0))) ∧ Aside0 (Below w.heap.size w w'))
       case atStart => exact ⟨(x3_2), (a0_0), (by first | rfl | (simp; done) | (simp [*]; done)), (by first | rfl | (simp; done) | (simp [*]; done)), H', ⟨Nat.le_refl _⟩, ⟨by (with_reducible repeat (first | refine blk_drewN ?_ _ | refine blk_drew ?_ | refine blk_alloc ?_ _)); exact BK184.out⟩, ⟨by repeat (first | (with_reducible first | exact HB.out | apply below_alloc | apply pw_below_drewN | apply below_drew1 | refine below_set ?_ GE184.out) | exact HB.out)⟩⟩
       case round =>
        clear H'
        try clear c1
        try clear p2
        try clear c4
        try clear c4b0
        try clear p6
        try clear c9
        try clear c9b0
        try clear c11
        try clear c13
        try clear hcz11_0
        try clear hcz11_1
        try clear hcz11_2
        try clear hcz11_3
        try clear hcz11_4
        try clear hcz11_5
        try clear hcz13_0
        try clear hcz13_1
        try clear hcz13_2
        try clear hcz13_3
        try clear hcz13_4
        try clear hcz13_5
        try clear hcz3_0
        try clear hcz3_1
        try clear hcz3_2
        try clear hcz3_3
        try clear hcz3_4
        try clear hcz3_5
        try clear hcz6_0
        try clear hcz6_1
        try clear hcz6_2
        try clear hcz6_3
        try clear hcz6_4
        try clear hcz6_5
        try clear hcz8_0
        try clear hcz8_1
        try clear hcz8_2
        try clear hcz8_3
        try clear hcz8_4
        try clear hcz8_5
        try clear hfz11_0
        try clear hfz11_1
        try clear hfz11_2
        try clear hfz11_3
        try clear hfz11_4
        try clear hfz11_5
        try clear hfz13_0
        try clear hfz13_1
        try clear hfz13_2
        try clear hfz13_3
        try clear hfz13_4
        try clear hfz13_5
        try clear hfz3_0
        try clear hfz3_1
        try clear hfz3_2
        try clear hfz3_3
        try clear hfz3_4
        try clear hfz3_5
        try clear hfz6_0
        try clear hfz6_1
        try clear hfz6_2
        try clear hfz6_3
        try clear hfz6_4
        try clear hfz6_5
        try clear hfz8_0
        try clear hfz8_1
        try clear hfz8_2
        try clear hfz8_3
        try clear hfz8_4
        try clear hfz8_5
        try clear p2
        try clear p6
        obtain ⟨x3_3, x6_3, rfl, rfl, HA, HK3, BK184, HB⟩ := hrel
        cases gk with
        | zero => exact absurd HA.out (by simp [datetime_seconds.l2])
        | succ k3 =>
         have H := HA.out
         clear HA
         simp only [datetime_seconds.l2] at H
         by_cases c14 : x6_3 < 1970
         ·rw [if_pos c14] at H
          have c14b0 : decide (x6_3 < 1970) = true := decide_eq_true c14
          clear c14
          replace H := Option.bind_eq_some_iff.mp H
          obtain ⟨t187, A150, H⟩ := H
          replace H : (datetime_seconds.l2 k3 (wrap64 (x3_3 - t187)) (wrap64 (x6_3 + 1)) a0_0 a0_1 a0_2 a0_3 a0_4 a0_5) = some r := H
          have A15 := Aside0.mk A150
          clear A150
          have H' := Aside0.mk H
          clear H
          go_wp2_with (first | ((with_reducible refine gate_callee (f := 118) rfl ?_); refine gL (some 40) Tryz.func118 #[.int .i64 x6_3] ?_; (with_reducible refine (datetime_yearDays.calls x6_3 t187 _ A15.out).mono ?_); rintro e w16 ⟨rfl, hb⟩; refine ⟨_, rfl, ?_⟩; have n0_ := Aside0.mk (blk_below (g := gb184) (o := .cells #[.int .i64 a0_0, .int .i64 a0_1, .int .i64 a0_2, .int .i64 a0_3, .int .i64 a0_4, .int .i64 a0_5] 119 (0, 0)) (by (with_reducible repeat (first | refine blk_drewN ?_ _ | refine blk_drew ?_ | refine blk_alloc ?_ _)); exact BK184.out) hb); have n1_ := Aside0.mk (below_step (by repeat (first | (with_reducible first | exact HB.out | apply below_alloc | apply pw_below_drewN | apply below_drew1 | refine below_set ?_ GE184.out) | exact HB.out)) hb); clear BK184; clear HB; have BK184 := n0_; have HB := n1_; clear n0_ n1_; (try clear hb); (try clear hb2); (try clear hk); (try clear hi)))
          go_roundg k3
          case measure => have := HK1.out; have := HK2.out; have := HK3.out; omega
          case rel => exact ⟨(wrap64 (x3_3 - t187)), (wrap64 (x6_3 + 1)), (by first | rfl | (simp; done) | (simp [*]; done)), (by first | rfl | (simp; done) | (simp [*]; done)), H', ⟨by have := HK1.out; have := HK2.out; have := HK3.out; omega⟩, ⟨by (with_reducible repeat (first | refine blk_drewN ?_ _ | refine blk_drew ?_ | refine blk_alloc ?_ _)); exact BK184.out⟩, ⟨by repeat (first | (with_reducible first | exact HB.out | apply below_alloc | apply pw_below_drewN | apply below_drew1 | refine below_set ?_ GE184.out) | exact HB.out)⟩⟩
         ·rw [if_neg c14] at H
          have c14b0 : decide (x6_3 < 1970) = false := decide_eq_false c14
          clear c14
          obtain rfl := Option.some.inj H
          have hcz17_0 : wr.cell? ⟨gb184, 0, none⟩ = some (.int .i64 a0_0) := (blk_cell BK184.out 0).trans rfl
          have hcz17_1 : wr.cell? ⟨gb184, 1, none⟩ = some (.int .i64 a0_1) := (blk_cell BK184.out 1).trans rfl
          have hcz17_2 : wr.cell? ⟨gb184, 2, none⟩ = some (.int .i64 a0_2) := (blk_cell BK184.out 2).trans rfl
          have hcz17_3 : wr.cell? ⟨gb184, 3, none⟩ = some (.int .i64 a0_3) := (blk_cell BK184.out 3).trans rfl
          have hcz17_4 : wr.cell? ⟨gb184, 4, none⟩ = some (.int .i64 a0_4) := (blk_cell BK184.out 4).trans rfl
          have hcz17_5 : wr.cell? ⟨gb184, 5, none⟩ = some (.int .i64 a0_5) := (blk_cell BK184.out 5).trans rfl
          have hfz17_0 := blk_frozen BK184.out 0
          have hfz17_1 := blk_frozen BK184.out 1
          have hfz17_2 := blk_frozen BK184.out 2
          have hfz17_3 := blk_frozen BK184.out 3
          have hfz17_4 := blk_frozen BK184.out 4
          have hfz17_5 := blk_frozen BK184.out 5
          go_wp2
          go_ret
          exact ⟨by first | rfl | (simp [errW_none, errW_some] <;> rfl) | (simp [*, errW_none, errW_some] <;> rfl), by repeat (first | (with_reducible first | exact HB.out | apply below_alloc | apply pw_below_drewN | apply below_drew1 | refine below_set ?_ GE184.out) | exact HB.out)⟩

/-! ### datetime_Join: function 127 -/
def datetime_Join.f (k : Nat) (a0_0 : Int) (a0_1 : Int) (a0_2 : Int) (a0_3 : Int) (a0_4 : Int) (a0_5 : Int) (a1 : Int) : Option (Int × Int) := (datetime_valid.f k a0_0 a0_1 a0_2 a0_3 a0_4 a0_5).bind fun t189 => (if t189 = true then ((datetime_isZone.f a1).bind fun t190 => (if t190 = true then ((datetime_seconds.f k a0_0 a0_1 a0_2 a0_3 a0_4 a0_5).bind fun t191 => ((datetime_isTime.f (wrap64 (t191 - (wrap64 (60 * a1))))).bind fun t192 => (if t192 = true then (some (wrap64 (t191 - (wrap64 (60 * a1))), 0)) else (some (0, 2))))) else (some (0, 2)))) else (some (0, 1)))
theorem datetime_Join.mono : ∀ a0 a1 a2 a3 a4 a5 a6 k, LeO (datetime_Join.f k a0 a1 a2 a3 a4 a5 a6) (datetime_Join.f (k + 1) a0 a1 a2 a3 a4 a5 a6) := by
 intro a0 a1 a2 a3 a4 a5 a6 k
 unfold datetime_Join.f
 repeat' first
   | (with_reducible exact datetime_seconds.mono _ _ _ _ _ _ _)
   | (with_reducible exact datetime_valid.mono _ _ _ _ _ _ _)
   | (with_reducible exact LeO.refl _)
   | (with_reducible exact LeO.none _)
   | (with_reducible refine LeO.ite ?_ ?_)
   | (with_reducible refine LeO.bind ?_ (fun _ => ?_))
   | exact datetime_seconds.mono _ _ _ _ _ _ _
   | exact datetime_valid.mono _ _ _ _ _ _ _
   | exact LeO.none _
   | refine LeO.ite ?_ ?_
   | refine LeO.bind ?_ (fun _ => ?_)
set_option maxHeartbeats 8000000 in
set_option maxRecDepth 100000 in
theorem datetime_Join.calls (k : Nat) (a0_0 : Int) (a0_1 : Int) (a0_2 : Int) (a0_3 : Int) (a0_4 : Int) (a0_5 : Int) (a1 : Int) (r1 : Int) (r2 : Int) (w : World) (h : datetime_Join.f k a0_0 a0_1 a0_2 a0_3 a0_4 a0_5 a1 = some (r1, r2)) :
  Calls Tryz.prog 127 #[.agg #[.int .i64 a0_0, .int .i64 a0_1, .int .i64 a0_2, .int .i64 a0_3, .int .i64 a0_4, .int .i64 a0_5], .int .i64 a1] w fun e w' => e = .returned (.tuple #[.int .i64 r1, .int .i64 r2]) ∧ Below w.heap.size w w' := by
 have hu119 := Tryz.underlying119
 have HB := Aside0.mk (Below.refl w.heap.size w)
 have H : ((datetime_valid.f k a0_0 a0_1 a0_2 a0_3 a0_4 a0_5).bind fun t189 => (if t189 = true then ((datetime_isZone.f a1).bind fun t190 => (if t190 = true then ((datetime_seconds.f k a0_0 a0_1 a0_2 a0_3 a0_4 a0_5).bind fun t191 => ((datetime_isTime.f (wrap64 (t191 - (wrap64 (60 * a1))))).bind fun t192 => (if t192 = true then (some (wrap64 (t191 - (wrap64 (60 * a1))), 0)) else (some (0, 2))))) else (some (0, 2)))) else (some (0, 1)))) = some (r1, r2) := h
 clear h
 replace H := Option.bind_eq_some_iff.mp H
 obtain ⟨t189, A30, H⟩ := H
 replace H : (if t189 = true then ((datetime_isZone.f a1).bind fun t190 => (if t190 = true then ((datetime_seconds.f k a0_0 a0_1 a0_2 a0_3 a0_4 a0_5).bind fun t191 => ((datetime_isTime.f (wrap64 (t191 - (wrap64 (60 * a1))))).bind fun t192 => (if t192 = true then (some (wrap64 (t191 - (wrap64 (60 * a1))), 0)) else (some (0, 2))))) else (some (0, 2)))) else (some (0, 1))) = some (r1, r2) := H
 have A3 := Aside0.mk A30
 clear A30
 by_cases c4 : t189 = true
 ·subst c4
  have H1 : ((datetime_isZone.f a1).bind fun t190 => (if t190 = true then ((datetime_seconds.f k a0_0 a0_1 a0_2 a0_3 a0_4 a0_5).bind fun t191 => ((datetime_isTime.f (wrap64 (t191 - (wrap64 (60 * a1))))).bind fun t192 => (if t192 = true then (some (wrap64 (t191 - (wrap64 (60 * a1))), 0)) else (some (0, 2))))) else (some (0, 2)))) = some (r1, r2) := by rw [if_pos rfl] at H; exact H
  clear H
  have H := H1
  clear H1
  replace H := Option.bind_eq_some_iff.mp H
  obtain ⟨t190, A50, H⟩ := H
  replace H : (if t190 = true then ((datetime_seconds.f k a0_0 a0_1 a0_2 a0_3 a0_4 a0_5).bind fun t191 => ((datetime_isTime.f (wrap64 (t191 - (wrap64 (60 * a1))))).bind fun t192 => (if t192 = true then (some (wrap64 (t191 - (wrap64 (60 * a1))), 0)) else (some (0, 2))))) else (some (0, 2))) = some (r1, r2) := H
  have A5 := Aside0.mk A50
  clear A50
  by_cases c6 : t190 = true
  ·subst c6
   have H1 : ((datetime_seconds.f k a0_0 a0_1 a0_2 a0_3 a0_4 a0_5).bind fun t191 => ((datetime_isTime.f (wrap64 (t191 - (wrap64 (60 * a1))))).bind fun t192 => (if t192 = true then (some (wrap64 (t191 - (wrap64 (60 * a1))), 0)) else (some (0, 2))))) = some (r1, r2) := by rw [if_pos rfl] at H; exact H
   clear H
   have H := H1
   clear H1
   replace H := Option.bind_eq_some_iff.mp H
   obtain ⟨t191, A70, H⟩ := H
   replace H : ((datetime_isTime.f (wrap64 (t191 - (wrap64 (60 * a1))))).bind fun t192 => (if t192 = true then (some (wrap64 (t191 - (wrap64 (60 * a1))), 0)) else (some (0, 2)))) = some (r1, r2) := H
   have A7 := Aside0.mk A70
   clear A70
   replace H := Option.bind_eq_some_iff.mp H
   obtain ⟨t192, A80, H⟩ := H
   replace H : (if t192 = true then (some (wrap64 (t191 - (wrap64 (60 * a1))), 0)) else (some (0, 2))) = some (r1, r2) := H
   have A8 := Aside0.mk A80
   clear A80
   by_cases c9 : t192 = true
   ·subst c9
    have H1 : (some (wrap64 (t191 - (wrap64 (60 * a1))), 0)) = some (r1, r2) := by rw [if_pos rfl] at H; exact H
    clear H
    have H := H1
    clear H1
    simp only [Option.some.injEq, Prod.mk.injEq] at H
    obtain ⟨rfl, rfl⟩ := H
    go_enter Tryz.func127, Tryz.ntmps127
    go_wp2_with (first | ((with_reducible refine gate_dst (N := 2) rfl ?_); refine box_event ?hg (N := 2) ?hd (cs := #[.int .i64 a0_0, .int .i64 a0_1, .int .i64 a0_2, .int .i64 a0_3, .int .i64 a0_4, .int .i64 a0_5]) (t := 119) ?hr ?_; (case hd => rfl); (case hg => rfl); (case hr => first | (go_simp; done) | (go_simp; rfl)); intro gb188 hg w10 hbox hb; have n0_ := Aside0.mk (below_step (uB HB.out) hb); have n1_ := Aside0.mk (hbox); have n2_ := Aside0.mk ((by rw [hg]; exact (below_size (uB HB.out)) : w.heap.size ≤ gb188)); have n3_ := Aside0.mk ((by rw [hg]; exact (below_size (uB HB.out)) : w.heap.size ≤ gb188)); clear HB; have HB := n0_; have BK188 := n1_; have GW188 := n2_; have GE188 := n3_; clear n0_ n1_ n2_ n3_; clear hb hbox hg; have hcz11_0 : w10.cell? ⟨gb188, 0, none⟩ = some (.int .i64 a0_0) := (blk_cell BK188.out 0).trans rfl; have hcz11_1 : w10.cell? ⟨gb188, 1, none⟩ = some (.int .i64 a0_1) := (blk_cell BK188.out 1).trans rfl; have hcz11_2 : w10.cell? ⟨gb188, 2, none⟩ = some (.int .i64 a0_2) := (blk_cell BK188.out 2).trans rfl; have hcz11_3 : w10.cell? ⟨gb188, 3, none⟩ = some (.int .i64 a0_3) := (blk_cell BK188.out 3).trans rfl; have hcz11_4 : w10.cell? ⟨gb188, 4, none⟩ = some (.int .i64 a0_4) := (blk_cell BK188.out 4).trans rfl; have hcz11_5 : w10.cell? ⟨gb188, 5, none⟩ = some (.int .i64 a0_5) := (blk_cell BK188.out 5).trans rfl; have hfz11_0 := blk_frozen BK188.out 0; have hfz11_1 := blk_frozen BK188.out 1; have hfz11_2 := blk_frozen BK188.out 2; have hfz11_3 := blk_frozen BK188.out 3; have hfz11_4 := blk_frozen BK188.out 4; have hfz11_5 := blk_frozen BK188.out 5) | ((with_reducible refine gate_callee (f := 126) rfl ?_); refine gL (some 8) Tryz.func126 #[.agg #[.int .i64 a0_0, .int .i64 a0_1, .int .i64 a0_2, .int .i64 a0_3, .int .i64 a0_4, .int .i64 a0_5]] ?_; (with_reducible refine (datetime_valid.calls k a0_0 a0_1 a0_2 a0_3 a0_4 a0_5 true _ A3.out).mono ?_); rintro e w12 ⟨rfl, hb⟩; refine ⟨_, rfl, ?_⟩; have n0_ := Aside0.mk (blk_below (g := gb188) (o := .cells #[.int .i64 a0_0, .int .i64 a0_1, .int .i64 a0_2, .int .i64 a0_3, .int .i64 a0_4, .int .i64 a0_5] 119 (0, 0)) (by (with_reducible repeat (first | refine blk_drewN ?_ _ | refine blk_drew ?_ | refine blk_alloc ?_ _)); exact BK188.out) hb); have n1_ := Aside0.mk (below_step (by repeat (first | (with_reducible first | exact HB.out | apply below_alloc | apply pw_below_drewN | apply below_drew1 | refine below_set ?_ GE188.out) | exact HB.out)) hb); clear BK188; clear HB; have BK188 := n0_; have HB := n1_; clear n0_ n1_; (try clear hb); (try clear hb2); (try clear hk); (try clear hi)) | ((with_reducible refine gate_callee (f := 117) rfl ?_); refine gL (some 11) Tryz.func117 #[.int .i64 a1] ?_; (with_reducible refine (datetime_isZone.calls a1 true _ A5.out).mono ?_); rintro e w' ⟨rfl, ⟨nd, rfl⟩⟩; refine ⟨_, rfl, ?_⟩; have hcz13_0 : w12.cell? ⟨gb188, 0, none⟩ = some (.int .i64 a0_0) := (blk_cell BK188.out 0).trans rfl; have hcz13_1 : w12.cell? ⟨gb188, 1, none⟩ = some (.int .i64 a0_1) := (blk_cell BK188.out 1).trans rfl; have hcz13_2 : w12.cell? ⟨gb188, 2, none⟩ = some (.int .i64 a0_2) := (blk_cell BK188.out 2).trans rfl; have hcz13_3 : w12.cell? ⟨gb188, 3, none⟩ = some (.int .i64 a0_3) := (blk_cell BK188.out 3).trans rfl; have hcz13_4 : w12.cell? ⟨gb188, 4, none⟩ = some (.int .i64 a0_4) := (blk_cell BK188.out 4).trans rfl; have hcz13_5 : w12.cell? ⟨gb188, 5, none⟩ = some (.int .i64 a0_5) := (blk_cell BK188.out 5).trans rfl; have hfz13_0 := blk_frozen BK188.out 0; have hfz13_1 := blk_frozen BK188.out 1; have hfz13_2 := blk_frozen BK188.out 2; have hfz13_3 := blk_frozen BK188.out 3; have hfz13_4 := blk_frozen BK188.out 4; have hfz13_5 := blk_frozen BK188.out 5) | ((with_reducible refine gate_callee (f := 138) rfl ?_); refine gL (some 14) Tryz.func138 #[.agg #[.int .i64 a0_0, .int .i64 a0_1, .int .i64 a0_2, .int .i64 a0_3, .int .i64 a0_4, .int .i64 a0_5]] ?_; (with_reducible refine (datetime_seconds.calls k a0_0 a0_1 a0_2 a0_3 a0_4 a0_5 t191 _ A7.out).mono ?_); rintro e w14 ⟨rfl, hb⟩; refine ⟨_, rfl, ?_⟩; have n0_ := Aside0.mk (blk_below (g := gb188) (o := .cells #[.int .i64 a0_0, .int .i64 a0_1, .int .i64 a0_2, .int .i64 a0_3, .int .i64 a0_4, .int .i64 a0_5] 119 (0, 0)) (by (with_reducible repeat (first | refine blk_drewN ?_ _ | refine blk_drew ?_ | refine blk_alloc ?_ _)); exact BK188.out) hb); have n1_ := Aside0.mk (below_step (by repeat (first | (with_reducible first | exact HB.out | apply below_alloc | apply pw_below_drewN | apply below_drew1 | refine below_set ?_ GE188.out) | exact HB.out)) hb); clear BK188; clear HB; have BK188 := n0_; have HB := n1_; clear n0_ n1_; (try clear hb); (try clear hb2); (try clear hk); (try clear hi)) | ((with_reducible refine gate_callee (f := 116) rfl ?_); refine gL (some 19) Tryz.func116 #[.int .i64 (wrap64 (t191 - (wrap64 (60 * a1))))] ?_; (with_reducible refine (datetime_isTime.calls (wrap64 (t191 - (wrap64 (60 * a1)))) true _ A8.out).mono ?_); rintro e w' ⟨rfl, ⟨nd, rfl⟩⟩; refine ⟨_, rfl, ?_⟩))
    go_ret2
    exact ⟨by first | rfl | (simp [errW_none, errW_some] <;> rfl) | (simp [*, errW_none, errW_some] <;> rfl), by repeat (first | (with_reducible first | exact HB.out | apply below_alloc | apply pw_below_drewN | apply below_drew1 | refine below_set ?_ GE188.out) | exact HB.out)⟩
   ·replace c9 := Bool.eq_false_iff.mpr c9
    subst c9
    have H1 : (some (0, 2)) = some (r1, r2) := by rw [if_neg (show ¬ (false = true) by decide)] at H; exact H
    clear H
    have H := H1
    clear H1
    simp only [Option.some.injEq, Prod.mk.injEq] at H
    obtain ⟨rfl, rfl⟩ := H
    go_enter Tryz.func127, Tryz.ntmps127
    go_wp2_with (first | ((with_reducible refine gate_dst (N := 2) rfl ?_); refine box_event ?hg (N := 2) ?hd (cs := #[.int .i64 a0_0, .int .i64 a0_1, .int .i64 a0_2, .int .i64 a0_3, .int .i64 a0_4, .int .i64 a0_5]) (t := 119) ?hr ?_; (case hd => rfl); (case hg => rfl); (case hr => first | (go_simp; done) | (go_simp; rfl)); intro gb188 hg w15 hbox hb; have n0_ := Aside0.mk (below_step (uB HB.out) hb); have n1_ := Aside0.mk (hbox); have n2_ := Aside0.mk ((by rw [hg]; exact (below_size (uB HB.out)) : w.heap.size ≤ gb188)); have n3_ := Aside0.mk ((by rw [hg]; exact (below_size (uB HB.out)) : w.heap.size ≤ gb188)); clear HB; have HB := n0_; have BK188 := n1_; have GW188 := n2_; have GE188 := n3_; clear n0_ n1_ n2_ n3_; clear hb hbox hg; have hcz16_0 : w15.cell? ⟨gb188, 0, none⟩ = some (.int .i64 a0_0) := (blk_cell BK188.out 0).trans rfl; have hcz16_1 : w15.cell? ⟨gb188, 1, none⟩ = some (.int .i64 a0_1) := (blk_cell BK188.out 1).trans rfl; have hcz16_2 : w15.cell? ⟨gb188, 2, none⟩ = some (.int .i64 a0_2) := (blk_cell BK188.out 2).trans rfl; have hcz16_3 : w15.cell? ⟨gb188, 3, none⟩ = some (.int .i64 a0_3) := (blk_cell BK188.out 3).trans rfl; have hcz16_4 : w15.cell? ⟨gb188, 4, none⟩ = some (.int .i64 a0_4) := (blk_cell BK188.out 4).trans rfl; have hcz16_5 : w15.cell? ⟨gb188, 5, none⟩ = some (.int .i64 a0_5) := (blk_cell BK188.out 5).trans rfl; have hfz16_0 := blk_frozen BK188.out 0; have hfz16_1 := blk_frozen BK188.out 1; have hfz16_2 := blk_frozen BK188.out 2; have hfz16_3 := blk_frozen BK188.out 3; have hfz16_4 := blk_frozen BK188.out 4; have hfz16_5 := blk_frozen BK188.out 5) | ((with_reducible refine gate_callee (f := 126) rfl ?_); refine gL (some 8) Tryz.func126 #[.agg #[.int .i64 a0_0, .int .i64 a0_1, .int .i64 a0_2, .int .i64 a0_3, .int .i64 a0_4, .int .i64 a0_5]] ?_; (with_reducible refine (datetime_valid.calls k a0_0 a0_1 a0_2 a0_3 a0_4 a0_5 true _ A3.out).mono ?_); rintro e w17 ⟨rfl, hb⟩; refine ⟨_, rfl, ?_⟩; have n0_ := Aside0.mk (blk_below (g := gb188) (o := .cells #[.int .i64 a0_0, .int .i64 a0_1, .int .i64 a0_2, .int .i64 a0_3, .int .i64 a0_4, .int .i64 a0_5] 119 (0, 0)) (by (with_reducible repeat (first | refine blk_drewN ?_ _ | refine blk_drew ?_ | refine blk_alloc ?_ _)); exact BK188.out) hb); have n1_ := Aside0.mk (below_step (by repeat (first | (with_reducible first | exact HB.out | apply below_alloc | apply pw_below_drewN | apply below_drew1 | refine below_set ?_ GE188.out) | exact HB.out)) hb); clear BK188; clear HB; have BK188 := n0_; have HB := n1_; clear n0_ n1_; (try clear hb); (try clear hb2); (try clear hk); (try clear hi)) | ((with_reducible refine gate_callee (f := 117) rfl ?_); refine gL (some 11) Tryz.func117 #[.int .i64 a1] ?_; (with_reducible refine (datetime_isZone.calls a1 true _ A5.out).mono ?_); rintro e w' ⟨rfl, ⟨nd, rfl⟩⟩; refine ⟨_, rfl, ?_⟩; have hcz18_0 : w17.cell? ⟨gb188, 0, none⟩ = some (.int .i64 a0_0) := (blk_cell BK188.out 0).trans rfl; have hcz18_1 : w17.cell? ⟨gb188, 1, none⟩ = some (.int .i64 a0_1) := (blk_cell BK188.out 1).trans rfl; have hcz18_2 : w17.cell? ⟨gb188, 2, none⟩ = some (.int .i64 a0_2) := (blk_cell BK188.out 2).trans rfl; have hcz18_3 : w17.cell? ⟨gb188, 3, none⟩ = some (.int .i64 a0_3) := (blk_cell BK188.out 3).trans rfl; have hcz18_4 : w17.cell? ⟨gb188, 4, none⟩ = some (.int .i64 a0_4) := (blk_cell BK188.out 4).trans rfl; have hcz18_5 : w17.cell? ⟨gb188, 5, none⟩ = some (.int .i64 a0_5) := (blk_cell BK188.out 5).trans rfl; have hfz18_0 := blk_frozen BK188.out 0; have hfz18_1 := blk_frozen BK188.out 1; have hfz18_2 := blk_frozen BK188.out 2; have hfz18_3 := blk_frozen BK188.out 3; have hfz18_4 := blk_frozen BK188.out 4; have hfz18_5 := blk_frozen BK188.out 5) | ((with_reducible refine gate_callee (f := 138) rfl ?_); refine gL (some 14) Tryz.func138 #[.agg #[.int .i64 a0_0, .int .i64 a0_1, .int .i64 a0_2, .int .i64 a0_3, .int .i64 a0_4, .int .i64 a0_5]] ?_; (with_reducible refine (datetime_seconds.calls k a0_0 a0_1 a0_2 a0_3 a0_4 a0_5 t191 _ A7.out).mono ?_); rintro e w19 ⟨rfl, hb⟩; refine ⟨_, rfl, ?_⟩; have n0_ := Aside0.mk (blk_below (g := gb188) (o := .cells #[.int .i64 a0_0, .int .i64 a0_1, .int .i64 a0_2, .int .i64 a0_3, .int .i64 a0_4, .int .i64 a0_5] 119 (0, 0)) (by (with_reducible repeat (first | refine blk_drewN ?_ _ | refine blk_drew ?_ | refine blk_alloc ?_ _)); exact BK188.out) hb); have n1_ := Aside0.mk (below_step (by repeat (first | (with_reducible first | exact HB.out | apply below_alloc | apply pw_below_drewN | apply below_drew1 | refine below_set ?_ GE188.out) | exact HB.out)) hb); clear BK188; clear HB; have BK188 := n0_; have HB := n1_; clear n0_ n1_; (try clear hb); (try clear hb2); (try clear hk); (try clear hi)) | ((with_reducible refine gate_callee (f := 116) rfl ?_); refine gL (some 19) Tryz.func116 #[.int .i64 (wrap64 (t191 - (wrap64 (60 * a1))))] ?_; (with_reducible refine (datetime_isTime.calls (wrap64 (t191 - (wrap64 (60 * a1)))) false _ A8.out).mono ?_); rintro e w' ⟨rfl, ⟨nd, rfl⟩⟩; refine ⟨_, rfl, ?_⟩))
    go_ret2
    exact ⟨by first | rfl | (simp [errW_none, errW_some] <;> rfl) | (simp [*, errW_none, errW_some] <;> rfl), by repeat (first | (with_reducible first | exact HB.out | apply below_alloc | apply pw_below_drewN | apply below_drew1 | refine below_set ?_ GE188.out) | exact HB.out)⟩
  ·replace c6 := Bool.eq_false_iff.mpr c6
   subst c6
   have H1 : (some (0, 2)) = some (r1, r2) := by rw [if_neg (show ¬ (false = true) by decide)] at H; exact H
   clear H
   have H := H1
   clear H1
   simp only [Option.some.injEq, Prod.mk.injEq] at H
   obtain ⟨rfl, rfl⟩ := H
   go_enter Tryz.func127, Tryz.ntmps127
   go_wp2_with (first | ((with_reducible refine gate_dst (N := 2) rfl ?_); refine box_event ?hg (N := 2) ?hd (cs := #[.int .i64 a0_0, .int .i64 a0_1, .int .i64 a0_2, .int .i64 a0_3, .int .i64 a0_4, .int .i64 a0_5]) (t := 119) ?hr ?_; (case hd => rfl); (case hg => rfl); (case hr => first | (go_simp; done) | (go_simp; rfl)); intro gb188 hg w20 hbox hb; have n0_ := Aside0.mk (below_step (uB HB.out) hb); have n1_ := Aside0.mk (hbox); have n2_ := Aside0.mk ((by rw [hg]; exact (below_size (uB HB.out)) : w.heap.size ≤ gb188)); have n3_ := Aside0.mk ((by rw [hg]; exact (below_size (uB HB.out)) : w.heap.size ≤ gb188)); clear HB; have HB := n0_; have BK188 := n1_; have GW188 := n2_; have GE188 := n3_; clear n0_ n1_ n2_ n3_; clear hb hbox hg; have hcz21_0 : w20.cell? ⟨gb188, 0, none⟩ = some (.int .i64 a0_0) := (blk_cell BK188.out 0).trans rfl; have hcz21_1 : w20.cell? ⟨gb188, 1, none⟩ = some (.int .i64 a0_1) := (blk_cell BK188.out 1).trans rfl; have hcz21_2 : w20.cell? ⟨gb188, 2, none⟩ = some (.int .i64 a0_2) := (blk_cell BK188.out 2).trans rfl; have hcz21_3 : w20.cell? ⟨gb188, 3, none⟩ = some (.int .i64 a0_3) := (blk_cell BK188.out 3).trans rfl; have hcz21_4 : w20.cell? ⟨gb188, 4, none⟩ = some (.int .i64 a0_4) := (blk_cell BK188.out 4).trans rfl; have hcz21_5 : w20.cell? ⟨gb188, 5, none⟩ = some (.int .i64 a0_5) := (blk_cell BK188.out 5).trans rfl; have hfz21_0 := blk_frozen BK188.out 0; have hfz21_1 := blk_frozen BK188.out 1; have hfz21_2 := blk_frozen BK188.out 2; have hfz21_3 := blk_frozen BK188.out 3; have hfz21_4 := blk_frozen BK188.out 4; have hfz21_5 := blk_frozen BK188.out 5) | ((with_reducible refine gate_callee (f := 126) rfl ?_); refine gL (some 8) Tryz.func126 #[.agg #[.int .i64 a0_0, .int .i64 a0_1, .int .i64 a0_2, .int .i64 a0_3, .int .i64 a0_4, .int .i64 a0_5]] ?_; (with_reducible refine (datetime_valid.calls k a0_0 a0_1 a0_2 a0_3 a0_4 a0_5 true _ A3.out).mono ?_); rintro e w22 ⟨rfl, hb⟩; refine ⟨_, rfl, ?_⟩; have n0_ := Aside0.mk (blk_below (g := gb188) (o := .cells #[.int .i64 a0_0, .int .i64 a0_1, .int .i64 a0_2, .int .i64 a0_3, .int .i64 a0_4, .int .i64 a0_5] 119 (0, 0)) (by (with_reducible repeat (first | refine blk_drewN ?_ _ | refine blk_drew ?_ | refine blk_alloc ?_ _)); exact BK188.out) hb); have n1_ := Aside0.mk (below_step (by repeat (first | (with_reducible first | exact HB.out | apply below_alloc | apply pw_below_drewN | apply below_drew1 | refine below_set ?_ GE188.out) | exact HB.out)) hb); clear BK188; clear HB; have BK188 := n0_; have HB := n1_; clear n0_ n1_; (try clear hb); (try clear hb2); (try clear hk); (try clear hi)) | ((with_reducible refine gate_callee (f := 117) rfl ?_); refine gL (some 11) Tryz.func117 #[.int .i64 a1] ?_; (with_reducible refine (datetime_isZone.calls a1 false _ A5.out).mono ?_); rintro e w' ⟨rfl, ⟨nd, rfl⟩⟩; refine ⟨_, rfl, ?_⟩))
   go_ret2
   exact ⟨by first | rfl | (simp [errW_none, errW_some] <;> rfl) | (simp [*, errW_none, errW_some] <;> rfl), by repeat (first | (with_reducible first | exact HB.out | apply below_alloc | apply pw_below_drewN | apply below_drew1 | refine below_set ?_ GE188.out) | exact HB.out)⟩
 ·replace c4 := Bool.eq_false_iff.mpr c4
  subst c4
  have H1 : (some (0, 1)) = some (r1, r2) := by rw [if_neg (show ¬ (false = true) by decide)] at H; exact H
  clear H
  have H := H1
  clear H1
  simp only [Option.some.injEq, Prod.mk.injEq] at H
  obtain ⟨rfl, rfl⟩ := H
  go_enter Tryz.func127, Tryz.ntmps127
  go_wp2_with (first | ((with_reducible refine gate_dst (N := 2) rfl ?_); refine box_event ?hg (N := 2) ?hd (cs := #[.int .i64 a0_0, .int .i64 a0_1, .int .i64 a0_2, .int .i64 a0_3, .int .i64 a0_4, .int .i64 a0_5]) (t := 119) ?hr ?_; (case hd => rfl); (case hg => rfl); (case hr => first | (go_simp; done) | (go_simp; rfl)); intro gb188 hg w23 hbox hb; have n0_ := Aside0.mk (below_step (uB HB.out) hb); have n1_ := Aside0.mk (hbox); have n2_ := Aside0.mk ((by rw [hg]; exact (below_size (uB HB.out)) : w.heap.size ≤ gb188)); have n3_ := Aside0.mk ((by rw [hg]; exact (below_size (uB HB.out)) : w.heap.size ≤ gb188)); clear HB; have HB := n0_; have BK188 := n1_; have GW188 := n2_; have GE188 := n3_; clear n0_ n1_ n2_ n3_; clear hb hbox hg; have hcz24_0 : w23.cell? ⟨gb188, 0, none⟩ = some (.int .i64 a0_0) := (blk_cell BK188.out 0).trans rfl; have hcz24_1 : w23.cell? ⟨gb188, 1, none⟩ = some (.int .i64 a0_1) := (blk_cell BK188.out 1).trans rfl; have hcz24_2 : w23.cell? ⟨gb188, 2, none⟩ = some (.int .i64 a0_2) := (blk_cell BK188.out 2).trans rfl; have hcz24_3 : w23.cell? ⟨gb188, 3, none⟩ = some (.int .i64 a0_3) := (blk_cell BK188.out 3).trans rfl; have hcz24_4 : w23.cell? ⟨gb188, 4, none⟩ = some (.int .i64 a0_4) := (blk_cell BK188.out 4).trans rfl; have hcz24_5 : w23.cell? ⟨gb188, 5, none⟩ = some (.int .i64 a0_5) := (blk_cell BK188.out 5).trans rfl; have hfz24_0 := blk_frozen BK188.out 0; have hfz24_1 := blk_frozen BK188.out 1; have hfz24_2 := blk_frozen BK188.out 2; have hfz24_3 := blk_frozen BK188.out 3; have hfz24_4 := blk_frozen BK188.out 4; have hfz24_5 := blk_frozen BK188.out 5) | ((with_reducible refine gate_callee (f := 126) rfl ?_); refine gL (some 8) Tryz.func126 #[.agg #[.int .i64 a0_0, .int .i64 a0_1, .int .i64 a0_2, .int .i64 a0_3, .int .i64 a0_4, .int .i64 a0_5]] ?_; (with_reducible refine (datetime_valid.calls k a0_0 a0_1 a0_2 a0_3 a0_4 a0_5 false _ A3.out).mono ?_); rintro e w25 ⟨rfl, hb⟩; refine ⟨_, rfl, ?_⟩; have n0_ := Aside0.mk (blk_below (g := gb188) (o := .cells #[.int .i64 a0_0, .int .i64 a0_1, .int .i64 a0_2, .int .i64 a0_3, .int .i64 a0_4, .int .i64 a0_5] 119 (0, 0)) (by (with_reducible repeat (first | refine blk_drewN ?_ _ | refine blk_drew ?_ | refine blk_alloc ?_ _)); exact BK188.out) hb); have n1_ := Aside0.mk (below_step (by repeat (first | (with_reducible first | exact HB.out | apply below_alloc | apply pw_below_drewN | apply below_drew1 | refine below_set ?_ GE188.out) | exact HB.out)) hb); clear BK188; clear HB; have BK188 := n0_; have HB := n1_; clear n0_ n1_; (try clear hb); (try clear hb2); (try clear hk); (try clear hi)))
  go_ret2
  exact ⟨by first | rfl | (simp [errW_none, errW_some] <;> rfl) | (simp [*, errW_none, errW_some] <;> rfl), by repeat (first | (with_reducible first | exact HB.out | apply below_alloc | apply pw_below_drewN | apply below_drew1 | refine below_set ?_ GE188.out) | exact HB.out)⟩

/-! ### datetime_read: function 106 -/
def datetime_read.j0 : Nat → Int → Bool → Int → Int → Int → Int → Int → Int → Option (Int × Int × Int)
 | 0, _, _, _, _, _, _, _, _ => none
 | k + 1, x1, x17, x194000, x194001, x194002, x194003, x194004, x194005 => if x17 = true then (some (0, 0, 10)) else ((datetime_Join.f k x194000 x194001 x194002 x194003 x194004 x194005 x1).bind fun bt195 => (if bt195.2 = 0 then (some (bt195.1, x1, 0)) else (some (0, 0, 2))))
def datetime_read.f (k : Nat) (a0_0 : Int) (a0_1 : Int) (a0_2 : Int) (a0_3 : Int) (a0_4 : Int) (a0_5 : Int) (a1 : Int) (a2 : Bool) : Option (Int × Int × Int) := if a2 = true then ((datetime_valid.f k a0_0 a0_1 a0_2 a0_3 a0_4 a0_5).bind fun t194 => (datetime_read.j0 k a1 (!t194) a0_0 a0_1 a0_2 a0_3 a0_4 a0_5)) else (datetime_read.j0 k a1 true a0_0 a0_1 a0_2 a0_3 a0_4 a0_5)
theorem datetime_read.mono_l : ∀ k, (∀ y0 y1 y2 y3 y4 y5 y6 y7, LeO (datetime_read.j0 k y0 y1 y2 y3 y4 y5 y6 y7) (datetime_read.j0 (k + 1) y0 y1 y2 y3 y4 y5 y6 y7))
 | 0 => fun _ _ _ _ _ _ _ _ r h => by simp [datetime_read.j0] at h
 | k + 1 => by
  have ih0 := datetime_read.mono_l k
  ·intro y0 y1 y2 y3 y4 y5 y6 y7
   unfold datetime_read.j0
   repeat' first
   | (with_reducible exact ih0 _ _ _ _ _ _ _ _)
   | (with_reducible exact datetime_Join.mono _ _ _ _ _ _ _ _)
   | (with_reducible exact datetime_valid.mono _ _ _ _ _ _ _)
   | (with_reducible exact LeO.refl _)
   | (with_reducible exact LeO.none _)
   | (with_reducible refine LeO.ite ?_ ?_)
   | (with_reducible refine LeO.bind ?_ (fun _ => ?_))
   | exact ih0 _ _ _ _ _ _ _ _
   | exact datetime_Join.mono _ _ _ _ _ _ _ _
   | exact datetime_valid.mono _ _ _ _ _ _ _
   | exact LeO.none _
   | refine LeO.ite ?_ ?_
   | refine LeO.bind ?_ (fun _ => ?_)
theorem datetime_read.mono : ∀ a0 a1 a2 a3 a4 a5 a6 a7 k, LeO (datetime_read.f k a0 a1 a2 a3 a4 a5 a6 a7) (datetime_read.f (k + 1) a0 a1 a2 a3 a4 a5 a6 a7) := by
 intro a0 a1 a2 a3 a4 a5 a6 a7 k
 have ih0 := datetime_read.mono_l k
 unfold datetime_read.f
 repeat' first
   | (with_reducible exact ih0 _ _ _ _ _ _ _ _)
   | (with_reducible exact datetime_Join.mono _ _ _ _ _ _ _ _)
   | (with_reducible exact datetime_valid.mono _ _ _ _ _ _ _)
   | (with_reducible exact LeO.refl _)
   | (with_reducible exact LeO.none _)
   | (with_reducible refine LeO.ite ?_ ?_)
   | (with_reducible refine LeO.bind ?_ (fun _ => ?_))
   | exact ih0 _ _ _ _ _ _ _ _
   | exact datetime_Join.mono _ _ _ _ _ _ _ _
   | exact datetime_valid.mono _ _ _ _ _ _ _
   | exact LeO.none _
   | refine LeO.ite ?_ ?_
   | refine LeO.bind ?_ (fun _ => ?_)
set_option maxHeartbeats 8000000 in
set_option maxRecDepth 100000 in
theorem datetime_read.calls (k : Nat) (a0_0 : Int) (a0_1 : Int) (a0_2 : Int) (a0_3 : Int) (a0_4 : Int) (a0_5 : Int) (a1 : Int) (a2 : Bool) (r1 : Int) (r2 : Int) (r3 : Int) (w : World) (h : datetime_read.f k a0_0 a0_1 a0_2 a0_3 a0_4 a0_5 a1 a2 = some (r1, r2, r3)) :
  Calls Tryz.prog 106 #[.agg #[.int .i64 a0_0, .int .i64 a0_1, .int .i64 a0_2, .int .i64 a0_3, .int .i64 a0_4, .int .i64 a0_5], .int .i64 a1, .bool a2] w fun e w' => e = .returned (.tuple #[.int .i64 r1, .int .i64 r2, .int .i64 r3]) ∧ Below w.heap.size w w' := by
 have hu119 := Tryz.underlying119
 have HB := Aside0.mk (Below.refl w.heap.size w)
 have H : (if a2 = true then ((datetime_valid.f k a0_0 a0_1 a0_2 a0_3 a0_4 a0_5).bind fun t194 => (datetime_read.j0 k a1 (!t194) a0_0 a0_1 a0_2 a0_3 a0_4 a0_5)) else (datetime_read.j0 k a1 true a0_0 a0_1 a0_2 a0_3 a0_4 a0_5)) = some (r1, r2, r3) := h
 clear h
 have HC4 := Aside0.mk H
 clear H
 go_enter Tryz.func106, Tryz.ntmps106
 go_upto_region 1 with (first | ((with_reducible refine gate_dst (N := 3) rfl ?_); refine box_event ?hg (N := 3) ?hd (cs := #[.int .i64 a0_0, .int .i64 a0_1, .int .i64 a0_2, .int .i64 a0_3, .int .i64 a0_4, .int .i64 a0_5]) (t := 119) ?hr ?_; (case hd => rfl); (case hg => rfl); (case hr => first | (go_simp; done) | (go_simp; rfl)); intro gb193 hg w5 hbox hb; have n0_ := Aside0.mk (below_step (uB HB.out) hb); have n1_ := Aside0.mk (hbox); have n2_ := Aside0.mk ((by rw [hg]; exact (below_size (uB HB.out)) : w.heap.size ≤ gb193)); have n3_ := Aside0.mk ((by rw [hg]; exact (below_size (uB HB.out)) : w.heap.size ≤ gb193)); clear HB; have HB := n0_; have BK193 := n1_; have GW193 := n2_; have GE193 := n3_; clear n0_ n1_ n2_ n3_; clear hb hbox hg))
 (try simp only [Act.put, List.setIfInBounds_toArray, List.set_cons_zero, List.set_cons_succ])
 go_cut [17] (fun v17 wc => ∃ (kq : Nat) (x17_3 : Bool), v17 = .bool x17_3 ∧ Aside0 (datetime_read.j0 kq a1 x17_3 a0_0 a0_1 a0_2 a0_3 a0_4 a0_5 = some (r1, r2, r3)) ∧ Aside0 (kq ≤ k) ∧ Aside0 (wc.heap[gb193]? = some (.cells #[.int .i64 a0_0, .int .i64 a0_1, .int .i64 a0_2, .int .i64 a0_3, .int .i64 a0_4, .int .i64 a0_5] 119 (0, 0))) ∧ Aside0 (Below w.heap.size w wc))
 case first =>
  have H := HC4.out
  clear HC4
  by_cases c6 : a2 = true
  ·subst c6
   have H1 : ((datetime_valid.f k a0_0 a0_1 a0_2 a0_3 a0_4 a0_5).bind fun t194 => (datetime_read.j0 k a1 (!t194) a0_0 a0_1 a0_2 a0_3 a0_4 a0_5)) = some (r1, r2, r3) := by rw [if_pos rfl] at H; exact H
   clear H
   have H := H1
   clear H1
   replace H := Option.bind_eq_some_iff.mp H
   obtain ⟨t194, A70, H⟩ := H
   replace H : (datetime_read.j0 k a1 (!t194) a0_0 a0_1 a0_2 a0_3 a0_4 a0_5) = some (r1, r2, r3) := H
   have A7 := Aside0.mk A70
   clear A70
   have H' := Aside0.mk H
   clear H
   have hcz8_0 : w5.cell? ⟨gb193, 0, none⟩ = some (.int .i64 a0_0) := (blk_cell BK193.out 0).trans rfl
   have hcz8_1 : w5.cell? ⟨gb193, 1, none⟩ = some (.int .i64 a0_1) := (blk_cell BK193.out 1).trans rfl
   have hcz8_2 : w5.cell? ⟨gb193, 2, none⟩ = some (.int .i64 a0_2) := (blk_cell BK193.out 2).trans rfl
   have hcz8_3 : w5.cell? ⟨gb193, 3, none⟩ = some (.int .i64 a0_3) := (blk_cell BK193.out 3).trans rfl
   have hcz8_4 : w5.cell? ⟨gb193, 4, none⟩ = some (.int .i64 a0_4) := (blk_cell BK193.out 4).trans rfl
   have hcz8_5 : w5.cell? ⟨gb193, 5, none⟩ = some (.int .i64 a0_5) := (blk_cell BK193.out 5).trans rfl
   have hfz8_0 := blk_frozen BK193.out 0
   have hfz8_1 := blk_frozen BK193.out 1
   have hfz8_2 := blk_frozen BK193.out 2
   have hfz8_3 := blk_frozen BK193.out 3
   have hfz8_4 := blk_frozen BK193.out 4
   have hfz8_5 := blk_frozen BK193.out 5
   go_wp2_with (first | (go_at_call 126; (with_reducible refine (datetime_valid.calls k a0_0 a0_1 a0_2 a0_3 a0_4 a0_5 t194 _ A7.out).mono ?_); rintro e w9 ⟨rfl, hb⟩; have n0_ := Aside0.mk (blk_below (g := gb193) (o := .cells #[.int .i64 a0_0, .int .i64 a0_1, .int .i64 a0_2, .int .i64 a0_3, .int .i64 a0_4, .int .i64 a0_5] 119 (0, 0)) (by (with_reducible repeat (first | refine blk_drewN ?_ _ | refine blk_drew ?_ | refine blk_alloc ?_ _)); exact BK193.out) hb); have n1_ := Aside0.mk (below_step (by repeat (first | (with_reducible first | exact HB.out | apply below_alloc | apply pw_below_drewN | apply below_drew1 | refine below_set ?_ GE193.out) | exact HB.out)) hb); clear BK193; clear HB; have BK193 := n0_; have HB := n1_; clear n0_ n1_; (try clear hb); (try clear hb2); (try clear hk); (try clear hi)))
   go_meet
   case rel => exact ⟨_, (!t194), (by first | rfl | (simp; done) | (simp [*]; done)), H', ⟨by first | omega | exact Nat.le_refl _⟩, ⟨by (with_reducible repeat (first | refine blk_drewN ?_ _ | refine blk_drew ?_ | refine blk_alloc ?_ _)); exact BK193.out⟩, ⟨by repeat (first | (with_reducible first | exact HB.out | apply below_alloc | apply pw_below_drewN | apply below_drew1 | refine below_set ?_ GE193.out) | exact HB.out)⟩⟩
  ·replace c6 := Bool.eq_false_iff.mpr c6
   subst c6
   have H1 : (datetime_read.j0 k a1 true a0_0 a0_1 a0_2 a0_3 a0_4 a0_5) = some (r1, r2, r3) := by rw [if_neg (show ¬ (false = true) by decide)] at H; exact H
   clear H
   have H := H1
   clear H1
   have H' := Aside0.mk H
   clear H
   go_wp2
   go_meet
   case rel => exact ⟨_, (true), (by first | rfl | (simp; done) | (simp [*]; done)), H', ⟨by first | omega | exact Nat.le_refl _⟩, ⟨by (with_reducible repeat (first | refine blk_drewN ?_ _ | refine blk_drew ?_ | refine blk_alloc ?_ _)); exact BK193.out⟩, ⟨by repeat (first | (with_reducible first | exact HB.out | apply below_alloc | apply pw_below_drewN | apply below_drew1 | refine below_set ?_ GE193.out) | exact HB.out)⟩⟩
 case rest =>
  clear HC4
  try clear c1
  try clear p2
  try clear c6
  try clear hcz8_0
  try clear hcz8_1
  try clear hcz8_2
  try clear hcz8_3
  try clear hcz8_4
  try clear hcz8_5
  try clear hfz8_0
  try clear hfz8_1
  try clear hfz8_2
  try clear hfz8_3
  try clear hfz8_4
  try clear hfz8_5
  obtain ⟨kq, x17_3, rfl, HA, HJ3, BK193, HB⟩ := hcut
  cases kq with
  | zero => exact absurd HA.out (by simp [datetime_read.j0])
  | succ kj3 =>
   have H := HA.out
   clear HA
   simp only [datetime_read.j0] at H
   by_cases c10 : x17_3 = true
   ·subst c10
    have H1 : (some (0, 0, 10)) = some (r1, r2, r3) := by rw [if_pos rfl] at H; exact H
    clear H
    have H := H1
    clear H1
    simp only [Option.some.injEq, Prod.mk.injEq] at H
    obtain ⟨rfl, rfl, rfl⟩ := H
    go_wp2
    go_ret3
    exact ⟨by first | rfl | (simp [errW_none, errW_some] <;> rfl) | (simp [*, errW_none, errW_some] <;> rfl), by repeat (first | (with_reducible first | exact HB.out | apply below_alloc | apply pw_below_drewN | apply below_drew1 | refine below_set ?_ GE193.out) | exact HB.out)⟩
   ·replace c10 := Bool.eq_false_iff.mpr c10
    subst c10
    have H1 : ((datetime_Join.f kj3 a0_0 a0_1 a0_2 a0_3 a0_4 a0_5 a1).bind fun bt195 => (if bt195.2 = 0 then (some (bt195.1, a1, 0)) else (some (0, 0, 2)))) = some (r1, r2, r3) := by rw [if_neg (show ¬ (false = true) by decide)] at H; exact H
    clear H
    have H := H1
    clear H1
    replace H := Option.bind_eq_some_iff.mp H
    obtain ⟨⟨t195, t196⟩, A110, H⟩ := H
    replace H : (if t196 = 0 then (some (t195, a1, 0)) else (some (0, 0, 2))) = some (r1, r2, r3) := H
    have A11 := Aside0.mk A110
    clear A110
    by_cases c12 : t196 = 0
    ·rw [if_pos c12] at H
     have c12b0 : (t196 == 0) = true := beq_iff_eq.mpr c12
     have c12b1 : (t196 != 0) = false := bne_eq_false_iff_eq.mpr c12
     clear c12
     simp only [Option.some.injEq, Prod.mk.injEq] at H
     obtain ⟨rfl, rfl, rfl⟩ := H
     have hcz13_0 : wc.cell? ⟨gb193, 0, none⟩ = some (.int .i64 a0_0) := (blk_cell BK193.out 0).trans rfl
     have hcz13_1 : wc.cell? ⟨gb193, 1, none⟩ = some (.int .i64 a0_1) := (blk_cell BK193.out 1).trans rfl
     have hcz13_2 : wc.cell? ⟨gb193, 2, none⟩ = some (.int .i64 a0_2) := (blk_cell BK193.out 2).trans rfl
     have hcz13_3 : wc.cell? ⟨gb193, 3, none⟩ = some (.int .i64 a0_3) := (blk_cell BK193.out 3).trans rfl
     have hcz13_4 : wc.cell? ⟨gb193, 4, none⟩ = some (.int .i64 a0_4) := (blk_cell BK193.out 4).trans rfl
     have hcz13_5 : wc.cell? ⟨gb193, 5, none⟩ = some (.int .i64 a0_5) := (blk_cell BK193.out 5).trans rfl
     have hfz13_0 := blk_frozen BK193.out 0
     have hfz13_1 := blk_frozen BK193.out 1
     have hfz13_2 := blk_frozen BK193.out 2
     have hfz13_3 := blk_frozen BK193.out 3
     have hfz13_4 := blk_frozen BK193.out 4
     have hfz13_5 := blk_frozen BK193.out 5
     go_wp2_with (first | ((with_reducible refine gate_callee (f := 127) rfl ?_); refine gL (some 21) Tryz.func127 #[.agg #[.int .i64 a0_0, .int .i64 a0_1, .int .i64 a0_2, .int .i64 a0_3, .int .i64 a0_4, .int .i64 a0_5], .int .i64 a1] ?_; (with_reducible refine (datetime_Join.calls kj3 a0_0 a0_1 a0_2 a0_3 a0_4 a0_5 a1 t195 t196 _ A11.out).mono ?_); rintro e w14 ⟨rfl, hb⟩; refine ⟨_, rfl, ?_⟩; have n0_ := Aside0.mk (blk_below (g := gb193) (o := .cells #[.int .i64 a0_0, .int .i64 a0_1, .int .i64 a0_2, .int .i64 a0_3, .int .i64 a0_4, .int .i64 a0_5] 119 (0, 0)) (by (with_reducible repeat (first | refine blk_drewN ?_ _ | refine blk_drew ?_ | refine blk_alloc ?_ _)); exact BK193.out) hb); have n1_ := Aside0.mk (below_step (by repeat (first | (with_reducible first | exact HB.out | apply below_alloc | apply pw_below_drewN | apply below_drew1 | refine below_set ?_ GE193.out) | exact HB.out)) hb); clear BK193; clear HB; have BK193 := n0_; have HB := n1_; clear n0_ n1_; (try clear hb); (try clear hb2); (try clear hk); (try clear hi)))
     go_ret3
     exact ⟨by first | rfl | (simp [errW_none, errW_some] <;> rfl) | (simp [*, errW_none, errW_some] <;> rfl), by repeat (first | (with_reducible first | exact HB.out | apply below_alloc | apply pw_below_drewN | apply below_drew1 | refine below_set ?_ GE193.out) | exact HB.out)⟩
    ·rw [if_neg c12] at H
     have c12b0 : (t196 == 0) = false := beq_eq_false_iff_ne.mpr c12
     have c12b1 : (t196 != 0) = true := bne_iff_ne.mpr c12
     simp only [Option.some.injEq, Prod.mk.injEq] at H
     obtain ⟨rfl, rfl, rfl⟩ := H
     have hcz15_0 : wc.cell? ⟨gb193, 0, none⟩ = some (.int .i64 a0_0) := (blk_cell BK193.out 0).trans rfl
     have hcz15_1 : wc.cell? ⟨gb193, 1, none⟩ = some (.int .i64 a0_1) := (blk_cell BK193.out 1).trans rfl
     have hcz15_2 : wc.cell? ⟨gb193, 2, none⟩ = some (.int .i64 a0_2) := (blk_cell BK193.out 2).trans rfl
     have hcz15_3 : wc.cell? ⟨gb193, 3, none⟩ = some (.int .i64 a0_3) := (blk_cell BK193.out 3).trans rfl
     have hcz15_4 : wc.cell? ⟨gb193, 4, none⟩ = some (.int .i64 a0_4) := (blk_cell BK193.out 4).trans rfl
     have hcz15_5 : wc.cell? ⟨gb193, 5, none⟩ = some (.int .i64 a0_5) := (blk_cell BK193.out 5).trans rfl
     have hfz15_0 := blk_frozen BK193.out 0
     have hfz15_1 := blk_frozen BK193.out 1
     have hfz15_2 := blk_frozen BK193.out 2
     have hfz15_3 := blk_frozen BK193.out 3
     have hfz15_4 := blk_frozen BK193.out 4
     have hfz15_5 := blk_frozen BK193.out 5
     go_wp2_with (first | ((with_reducible refine gate_callee (f := 127) rfl ?_); refine gL (some 21) Tryz.func127 #[.agg #[.int .i64 a0_0, .int .i64 a0_1, .int .i64 a0_2, .int .i64 a0_3, .int .i64 a0_4, .int .i64 a0_5], .int .i64 a1] ?_; (with_reducible refine (datetime_Join.calls kj3 a0_0 a0_1 a0_2 a0_3 a0_4 a0_5 a1 t195 t196 _ A11.out).mono ?_); rintro e w16 ⟨rfl, hb⟩; refine ⟨_, rfl, ?_⟩; have n0_ := Aside0.mk (blk_below (g := gb193) (o := .cells #[.int .i64 a0_0, .int .i64 a0_1, .int .i64 a0_2, .int .i64 a0_3, .int .i64 a0_4, .int .i64 a0_5] 119 (0, 0)) (by (with_reducible repeat (first | refine blk_drewN ?_ _ | refine blk_drew ?_ | refine blk_alloc ?_ _)); exact BK193.out) hb); have n1_ := Aside0.mk (below_step (by repeat (first | (with_reducible first | exact HB.out | apply below_alloc | apply pw_below_drewN | apply below_drew1 | refine below_set ?_ GE193.out) | exact HB.out)) hb); clear BK193; clear HB; have BK193 := n0_; have HB := n1_; clear n0_ n1_; (try clear hb); (try clear hb2); (try clear hk); (try clear hi)))
     go_ret3
     exact ⟨by first | rfl | (simp [errW_none, errW_some] <;> rfl) | (simp [*, errW_none, errW_some] <;> rfl), by repeat (first | (with_reducible first | exact HB.out | apply below_alloc | apply pw_below_drewN | apply below_drew1 | refine below_set ?_ GE193.out) | exact HB.out)⟩

end Go.Proofs.YthblghfobnhoeaaGreat.A
namespace Go.Proofs.YthblghfobnhoeaaGreat.A
open Go.RowKit Go.Proofs.YthblghfobnhoeaaGreat.H Go.Proofs.YthblghfobnhoeaaGreatW.PrintWords Go.Proofs.YthblghfobnhoeaaGreatW.PrintLast Go.Proofs.YthblghfobnhoeaaGreatW.PrintMore
attribute [local go_sem] max2_int min2_int max_two min_two max_three min_three max_four min_four   -- for this text's walks alone
set_option linter.unusedVariables false
set_option linter.unusedSimpArgs false

/-! ### datetime_ReadRecord: function 76 -/
def datetime_ReadRecord.f (k : Nat) (a0 : ByteArray) : Option (Int × Int × Int) := if (a0.size : Int) = 7 then (if 6 < (a0.size : Int) then ((datetime_quarter.f (bt a0 6)).bind fun bt197 => (if 0 < (a0.size : Int) then (if 1 < (a0.size : Int) then (if 2 < (a0.size : Int) then (if 3 < (a0.size : Int) then (if 4 < (a0.size : Int) then (if 5 < (a0.size : Int) then ((datetime_read.f k (wrap64 (1900 + (wrap64 (bt a0 0)))) (wrap64 (bt a0 1)) (wrap64 (bt a0 2)) (wrap64 (bt a0 3)) (wrap64 (bt a0 4)) (wrap64 (bt a0 5)) bt197.1 bt197.2).bind fun bt199 => (some (bt199.1, bt199.2.1, bt199.2.2))) else (none)) else (none)) else (none)) else (none)) else (none)) else (none))) else (none)) else (some (0, 0, 1))
theorem datetime_ReadRecord.mono : ∀ a0 k, LeO (datetime_ReadRecord.f k a0) (datetime_ReadRecord.f (k + 1) a0) := by
 intro a0 k
 unfold datetime_ReadRecord.f
 repeat' first
   | (with_reducible exact datetime_read.mono _ _ _ _ _ _ _ _ _)
   | (with_reducible exact LeO.refl _)
   | (with_reducible exact LeO.none _)
   | (with_reducible refine LeO.ite ?_ ?_)
   | (with_reducible refine LeO.bind ?_ (fun _ => ?_))
   | exact datetime_read.mono _ _ _ _ _ _ _ _ _
   | exact LeO.none _
   | refine LeO.ite ?_ ?_
   | refine LeO.bind ?_ (fun _ => ?_)
def datetime_ReadRecord.T4 : Bool × List (List Nat × List Nat) := (true, [([], []), ([0], [0]), ([1], [1]), ([2], [2]), ([], []), ([4], [4]), ([5], [5]), ([], []), ([7], [7]), ([8], [8]), ([], []), ([10], [10]), ([11], [11]), ([], []), ([13], [13]), ([14], [14]), ([], []), ([16], [16]), ([17], [17]), ([3, 6, 9, 12, 15, 18], [3, 6, 9, 12, 15, 18]), ([], []), ([], []), ([19, 20, 21], [19, 20, 21]), ([22], [22]), ([22], [22]), ([22], [22]), ([23, 22, 0, 1, 2, 3, 4, 5, 6, 7, 8, 9, 10, 11, 12, 13, 14, 15, 16, 17, 18, 19, 20, 21, 22, 23, 24, 25], [23]), ([24, 26, 0, 1, 2, 3, 4, 5, 6, 7, 8, 9, 10, 11, 12, 13, 14, 15, 16, 17, 18, 19, 20, 21, 22, 23, 24, 25, 26], [24]), ([25, 27, 0, 1, 2, 3, 4, 5, 6, 7, 8, 9, 10, 11, 12, 13, 14, 15, 16, 17, 18, 19, 20, 21, 22, 23, 24, 25, 26, 27], [25])])
def datetime_ReadRecord.B4 : List Nat := [0, 1, 3, 7, 0, 16, 48, 0, 128, 384, 0, 1024, 3072, 0, 8192, 24576, 0, 65536, 196608, 524287, 0, 0, 4194303, 8388607, 8388607, 8388607, 67108863, 134217727, 268435455]
theorem datetime_ReadRecord.tab4 : rtab .any (opsOf Tryz.f76 4) = datetime_ReadRecord.T4 := by kernel_rfl
theorem datetime_ReadRecord.bits4 : waitsOk datetime_ReadRecord.T4.2 datetime_ReadRecord.B4 = true := by kernel_rfl
set_option maxHeartbeats 8000000 in
set_option maxRecDepth 100000 in
theorem datetime_ReadRecord.calls (k : Nat) (a0 : ByteArray) (r1 : Int) (r2 : Int) (r3 : Int) (w : World) (h : datetime_ReadRecord.f k a0 = some (r1, r2, r3)) :
  Calls Tryz.prog 76 #[.string a0] w fun e w' => e = .returned (.tuple #[.int .i64 r1, .int .i64 r2, .int .i64 r3]) ∧ Below w.heap.size w w' := by
 have hu119 := Tryz.underlying119
 have HB := Aside0.mk (Below.refl w.heap.size w)
 have H : (if (a0.size : Int) = 7 then (if 6 < (a0.size : Int) then ((datetime_quarter.f (bt a0 6)).bind fun bt197 => (if 0 < (a0.size : Int) then (if 1 < (a0.size : Int) then (if 2 < (a0.size : Int) then (if 3 < (a0.size : Int) then (if 4 < (a0.size : Int) then (if 5 < (a0.size : Int) then ((datetime_read.f k (wrap64 (1900 + (wrap64 (bt a0 0)))) (wrap64 (bt a0 1)) (wrap64 (bt a0 2)) (wrap64 (bt a0 3)) (wrap64 (bt a0 4)) (wrap64 (bt a0 5)) bt197.1 bt197.2).bind fun bt199 => (some (bt199.1, bt199.2.1, bt199.2.2))) else (none)) else (none)) else (none)) else (none)) else (none)) else (none))) else (none)) else (some (0, 0, 1))) = some (r1, r2, r3) := h
 clear h
 by_cases c2 : (a0.size : Int) = 7
 ·rw [if_pos c2] at H
  have c2b0 : ((a0.size : Int) == 7) = true := beq_iff_eq.mpr c2
  have c2b1 : ((a0.size : Int) != 7) = false := bne_eq_false_iff_eq.mpr c2
  clear c2
  by_cases c3 : 6 < (a0.size : Int)
  rotate_left
  ·rw [if_neg c3] at H
   exact absurd H (by simp)
  rw [if_pos c3] at H
  have c3b0 : decide (6 < (a0.size : Int)) = true := decide_eq_true c3
  have c3b1 : decide (6 < a0.size) = true := decide_eq_true (by omega)
  clear c3
  replace H := Option.bind_eq_some_iff.mp H
  obtain ⟨⟨t197, t198⟩, A50, H⟩ := H
  replace H : (if 0 < (a0.size : Int) then (if 1 < (a0.size : Int) then (if 2 < (a0.size : Int) then (if 3 < (a0.size : Int) then (if 4 < (a0.size : Int) then (if 5 < (a0.size : Int) then ((datetime_read.f k (wrap64 (1900 + (wrap64 (bt a0 0)))) (wrap64 (bt a0 1)) (wrap64 (bt a0 2)) (wrap64 (bt a0 3)) (wrap64 (bt a0 4)) (wrap64 (bt a0 5)) t197 t198).bind fun bt199 => (some (bt199.1, bt199.2.1, bt199.2.2))) else (none)) else (none)) else (none)) else (none)) else (none)) else (none)) = some (r1, r2, r3) := H
  have A5 := Aside0.mk A50
  clear A50
  by_cases c6 : 0 < (a0.size : Int)
  rotate_left
  ·rw [if_neg c6] at H
   exact absurd H (by simp)
  rw [if_pos c6] at H
  have c6b0 : decide (0 < (a0.size : Int)) = true := decide_eq_true c6
  have c6b1 : decide (0 < a0.size) = true := decide_eq_true (by omega)
  clear c6
  by_cases c8 : 1 < (a0.size : Int)
  rotate_left
  ·rw [if_neg c8] at H
   exact absurd H (by simp)
  rw [if_pos c8] at H
  have c8b0 : decide (1 < (a0.size : Int)) = true := decide_eq_true c8
  have c8b1 : decide (1 < a0.size) = true := decide_eq_true (by omega)
  clear c8
  by_cases c10 : 2 < (a0.size : Int)
  rotate_left
  ·rw [if_neg c10] at H
   exact absurd H (by simp)
  rw [if_pos c10] at H
  have c10b0 : decide (2 < (a0.size : Int)) = true := decide_eq_true c10
  have c10b1 : decide (2 < a0.size) = true := decide_eq_true (by omega)
  clear c10
  by_cases c12 : 3 < (a0.size : Int)
  rotate_left
  ·rw [if_neg c12] at H
   exact absurd H (by simp)
  rw [if_pos c12] at H
  have c12b0 : decide (3 < (a0.size : Int)) = true := decide_eq_true c12
  have c12b1 : decide (3 < a0.size) = true := decide_eq_true (by omega)
  clear c12
  by_cases c14 : 4 < (a0.size : Int)
  rotate_left
  ·rw [if_neg c14] at H
   exact absurd H (by simp)
  rw [if_pos c14] at H
  have c14b0 : decide (4 < (a0.size : Int)) = true := decide_eq_true c14
  have c14b1 : decide (4 < a0.size) = true := decide_eq_true (by omega)
  clear c14
  by_cases c16 : 5 < (a0.size : Int)
  rotate_left
  ·rw [if_neg c16] at H
   exact absurd H (by simp)
  rw [if_pos c16] at H
  have c16b0 : decide (5 < (a0.size : Int)) = true := decide_eq_true c16
  have c16b1 : decide (5 < a0.size) = true := decide_eq_true (by omega)
  clear c16
  replace H := Option.bind_eq_some_iff.mp H
  obtain ⟨⟨t199, t200, t201⟩, A180, H⟩ := H
  replace H : (some (t199, t200, t201)) = some (r1, r2, r3) := H
  have A18 := Aside0.mk A180
  clear A180
  simp only [Option.some.injEq, Prod.mk.injEq] at H
  obtain ⟨rfl, rfl, rfl⟩ := H
  have p4 : 0 ≤ (6 : Int) := (by omega)
  have q4 : 6 < a0.size := (by have : (6 : Int) < (a0.size : Int) := of_decide_eq_true (by first | (with_reducible assumption) | assumption); omega)
  have hx4 : ∀ h : 6 < a0.size, ((a0[6]'h).toNat : Int) = bt a0 6 := bt_at a0 6
  clear p4
  have qi4 : (6 < (a0.size : Int)) = True := eq_true (of_decide_eq_true (by first | (with_reducible assumption) | assumption))
  replace q4 := eq_true q4
  go_enter Tryz.func76, Tryz.ntmps76
  try go_wp2_with (first | ((with_reducible refine gate_callee (f := 105) rfl ?_); refine gL (some 13) Tryz.func105 #[.int .u8 (bt a0 6)] ?_; (with_reducible refine (datetime_quarter.calls (bt a0 6) t197 t198 _ A5.out).mono ?_); rintro e w19 ⟨rfl, hb⟩; refine ⟨_, rfl, ?_⟩; have n0_ := Aside0.mk (below_step (uB HB.out) hb); clear HB; have HB := n0_; clear n0_; (try clear hb); (try clear hb2); (try clear hk); (try clear hi)))
  replace HB := Aside0.mk (below_drew1 HB.out)
  have p7 : 0 ≤ (0 : Int) := (by omega)
  have q7 : 0 < a0.size := (by have : (0 : Int) < (a0.size : Int) := of_decide_eq_true (by first | (with_reducible assumption) | assumption); omega)
  have hx7 : ∀ h : 0 < a0.size, ((a0[0]'h).toNat : Int) = bt a0 0 := bt_at a0 0
  clear p7
  have qi7 : (0 < (a0.size : Int)) = True := eq_true (of_decide_eq_true (by first | (with_reducible assumption) | assumption))
  replace q7 := eq_true q7
  have p9 : 0 ≤ (1 : Int) := (by omega)
  have q9 : 1 < a0.size := (by have : (1 : Int) < (a0.size : Int) := of_decide_eq_true (by first | (with_reducible assumption) | assumption); omega)
  have hx9 : ∀ h : 1 < a0.size, ((a0[1]'h).toNat : Int) = bt a0 1 := bt_at a0 1
  clear p9
  have qi9 : (1 < (a0.size : Int)) = True := eq_true (of_decide_eq_true (by first | (with_reducible assumption) | assumption))
  replace q9 := eq_true q9
  have p11 : 0 ≤ (2 : Int) := (by omega)
  have q11 : 2 < a0.size := (by have : (2 : Int) < (a0.size : Int) := of_decide_eq_true (by first | (with_reducible assumption) | assumption); omega)
  have hx11 : ∀ h : 2 < a0.size, ((a0[2]'h).toNat : Int) = bt a0 2 := bt_at a0 2
  clear p11
  have qi11 : (2 < (a0.size : Int)) = True := eq_true (of_decide_eq_true (by first | (with_reducible assumption) | assumption))
  replace q11 := eq_true q11
  have p13 : 0 ≤ (3 : Int) := (by omega)
  have q13 : 3 < a0.size := (by have : (3 : Int) < (a0.size : Int) := of_decide_eq_true (by first | (with_reducible assumption) | assumption); omega)
  have hx13 : ∀ h : 3 < a0.size, ((a0[3]'h).toNat : Int) = bt a0 3 := bt_at a0 3
  clear p13
  have qi13 : (3 < (a0.size : Int)) = True := eq_true (of_decide_eq_true (by first | (with_reducible assumption) | assumption))
  replace q13 := eq_true q13
  have p15 : 0 ≤ (4 : Int) := (by omega)
  have q15 : 4 < a0.size := (by have : (4 : Int) < (a0.size : Int) := of_decide_eq_true (by first | (with_reducible assumption) | assumption); omega)
  have hx15 : ∀ h : 4 < a0.size, ((a0[4]'h).toNat : Int) = bt a0 4 := bt_at a0 4
  clear p15
  have qi15 : (4 < (a0.size : Int)) = True := eq_true (of_decide_eq_true (by first | (with_reducible assumption) | assumption))
  replace q15 := eq_true q15
  have p17 : 0 ≤ (5 : Int) := (by omega)
  have q17 : 5 < a0.size := (by have : (5 : Int) < (a0.size : Int) := of_decide_eq_true (by first | (with_reducible assumption) | assumption); omega)
  have hx17 : ∀ h : 5 < a0.size, ((a0[5]'h).toNat : Int) = bt a0 5 := bt_at a0 5
  clear p17
  have qi17 : (5 < (a0.size : Int)) = True := eq_true (of_decide_eq_true (by first | (with_reducible assumption) | assumption))
  replace q17 := eq_true q17
  refine start_ (n := 29) (S := fun w' => True) (ds := []) #[false, false, false, false, false, false, false, false, false, false, false, false, false, false, false, false, false, false, false, false, false, false, false, false, false, false, false, false, false] (by kernel_rfl) rfl rfl trivial (fun hHeld => ?_); refine with_tabW datetime_ReadRecord.tab4 datetime_ReadRecord.bits4 (fun HT_ HW_ => ?_)
  generalize w19.drew = w20 at HB hHeld ⊢
  refine pA (i := 0) (N := some 16) (tb 29 1) (any_of HT_.out (by kernel_rfl)) ?_
  refine pA (i := 4) (N := some 20) (tb 29 17) (any_of HT_.out (by kernel_rfl)) ?_
  refine pA (i := 7) (N := some 23) (tb 29 145) (any_of HT_.out (by kernel_rfl)) ?_
  refine pA (i := 10) (N := some 26) (tb 29 1169) (any_of HT_.out (by kernel_rfl)) ?_
  refine pA (i := 13) (N := some 29) (tb 29 9361) (any_of HT_.out (by kernel_rfl)) ?_
  refine pA (i := 16) (N := some 32) (tb 29 74897) (any_of HT_.out (by kernel_rfl)) ?_
  refine pA (i := 20) (N := some 36) (tb 29 1123473) (any_of HT_.out (by kernel_rfl)) ?_
  refine pA (i := 21) (N := some 37) (tb 29 3220625) (any_of HT_.out (by kernel_rfl)) ?_
  refine take_ (i := 1) (N := some 17) (v := ?_) (a' := ?_) (tb 29 3220627) rfl rfl (take_ofW HT_.out HW_.out (by kernel_rfl)) (fun _ _ _ h => h) (Or.inl ⟨by rfl, ?_⟩) hHeld ?_ ?_
  rotate_left
  ·intro w' _
   go_simp
   with_reducible rfl
  rotate_left
  ·simp only [Act.put, List.setIfInBounds_toArray, List.set_cons_zero, List.set_cons_succ, i64_w, i32_w]
   rfl
  refine pA (i := 2) (N := some 18) (tb 29 3220631) (any_of HT_.out (by kernel_rfl)) ?_
  refine pA (i := 3) (N := some 19) (tb 29 3220639) (any_of HT_.out (by kernel_rfl)) ?_
  refine take_ (i := 5) (N := some 21) (v := ?_) (a' := ?_) (tb 29 3220671) rfl rfl (take_ofW HT_.out HW_.out (by kernel_rfl)) (fun _ _ _ h => h) (Or.inl ⟨by rfl, ?_⟩) hHeld ?_ ?_
  rotate_left
  ·intro w' _
   go_simp
   with_reducible rfl
  rotate_left
  ·simp only [Act.put, List.setIfInBounds_toArray, List.set_cons_zero, List.set_cons_succ, i64_w, i32_w]
   rfl
  refine pA (i := 6) (N := some 22) (tb 29 3220735) (any_of HT_.out (by kernel_rfl)) ?_
  refine take_ (i := 8) (N := some 24) (v := ?_) (a' := ?_) (tb 29 3220991) rfl rfl (take_ofW HT_.out HW_.out (by kernel_rfl)) (fun _ _ _ h => h) (Or.inl ⟨by rfl, ?_⟩) hHeld ?_ ?_
  rotate_left
  ·intro w' _
   go_simp
   with_reducible rfl
  rotate_left
  ·simp only [Act.put, List.setIfInBounds_toArray, List.set_cons_zero, List.set_cons_succ, i64_w, i32_w]
   rfl
  refine pA (i := 9) (N := some 25) (tb 29 3221503) (any_of HT_.out (by kernel_rfl)) ?_
  refine take_ (i := 11) (N := some 27) (v := ?_) (a' := ?_) (tb 29 3223551) rfl rfl (take_ofW HT_.out HW_.out (by kernel_rfl)) (fun _ _ _ h => h) (Or.inl ⟨by rfl, ?_⟩) hHeld ?_ ?_
  rotate_left
  ·intro w' _
   go_simp
   with_reducible rfl
  rotate_left
  ·simp only [Act.put, List.setIfInBounds_toArray, List.set_cons_zero, List.set_cons_succ, i64_w, i32_w]
   rfl
  refine pA (i := 12) (N := some 28) (tb 29 3227647) (any_of HT_.out (by kernel_rfl)) ?_
  refine take_ (i := 14) (N := some 30) (v := ?_) (a' := ?_) (tb 29 3244031) rfl rfl (take_ofW HT_.out HW_.out (by kernel_rfl)) (fun _ _ _ h => h) (Or.inl ⟨by rfl, ?_⟩) hHeld ?_ ?_
  rotate_left
  ·intro w' _
   go_simp
   with_reducible rfl
  rotate_left
  ·simp only [Act.put, List.setIfInBounds_toArray, List.set_cons_zero, List.set_cons_succ, i64_w, i32_w]
   rfl
  refine pA (i := 15) (N := some 31) (tb 29 3276799) (any_of HT_.out (by kernel_rfl)) ?_
  refine take_ (i := 17) (N := some 33) (v := ?_) (a' := ?_) (tb 29 3407871) rfl rfl (take_ofW HT_.out HW_.out (by kernel_rfl)) (fun _ _ _ h => h) (Or.inl ⟨by rfl, ?_⟩) hHeld ?_ ?_
  rotate_left
  ·intro w' _
   go_simp
   with_reducible rfl
  rotate_left
  ·simp only [Act.put, List.setIfInBounds_toArray, List.set_cons_zero, List.set_cons_succ, i64_w, i32_w]
   rfl
  refine pA (i := 18) (N := some 34) (tb 29 3670015) (any_of HT_.out (by kernel_rfl)) ?_
  refine pA (i := 19) (N := some 35) (tb 29 4194303) (any_of HT_.out (by kernel_rfl)) ?_
  refine one_ (i := 22) (N := some 38) (tb 29 8388607) rfl rfl (one_of HT_.out (by kernel_rfl)) (by decide) (fun K hK => ?_)
  refine goes_ Tryz.func106 (by kernel_rfl) rfl #[.agg #[.int .i64 (wrap64 (1900 + (wrap64 (bt a0 0)))), .int .i64 (wrap64 (bt a0 1)), .int .i64 (wrap64 (bt a0 2)), .int .i64 (wrap64 (bt a0 3)), .int .i64 (wrap64 (bt a0 4)), .int .i64 (wrap64 (bt a0 5))], .int .i64 t197, .bool t198] (by rfl) rfl rfl (by (try simp only [List.map_toArray, List.map_cons, List.map_nil]); first | done | rfl | (simp only [List.length_drop, List.length_take]; rfl)) ?_
  with_reducible refine (datetime_read.calls k (wrap64 (1900 + (wrap64 (bt a0 0)))) (wrap64 (bt a0 1)) (wrap64 (bt a0 2)) (wrap64 (bt a0 3)) (wrap64 (bt a0 4)) (wrap64 (bt a0 5)) t197 t198 t199 t200 t201 _ A18.out).mono ?_
  rintro e w21 ⟨rfl, hb⟩
  refine ⟨_, rfl, ?_⟩
  replace HB := Aside0.mk (below_step (uB HB.out) hb)
  (try clear hb)
  (try clear hb2)
  (try clear hk)
  (try clear hi)
  refine hK.out _ _ trivial (fun hHeld => ?_)
  clear hK K
  refine norm_ (a' := ?_) ?_ ?_
  rotate_left
  ·show Act.put _ (some 38) _ = _
   simp only [Act.put, List.setIfInBounds_toArray, List.set_cons_zero, List.set_cons_succ, i64_w, i32_w]
   rfl
  refine pA (i := 23) (N := some 39) (tb 29 16777215) (any_of HT_.out (by kernel_rfl)) ?_
  refine pA (i := 24) (N := some 40) (tb 29 33554431) (any_of HT_.out (by kernel_rfl)) ?_
  refine pA (i := 25) (N := some 41) (tb 29 67108863) (any_of HT_.out (by kernel_rfl)) ?_
  refine pA (i := 26) (N := some 2) (tb 29 134217727) (any_of HT_.out (by kernel_rfl)) ?_
  refine pA (i := 27) (N := some 3) (tb 29 268435455) (any_of HT_.out (by kernel_rfl)) ?_
  refine pA (i := 28) (N := some 4) (tb 29 536870911) (any_of HT_.out (by kernel_rfl)) ?_
  refine done_ (done_of HT_.out (by kernel_rfl)) ?_
  try go_wp2
  go_ret3
  exact ⟨by first | rfl | (simp [errW_none, errW_some] <;> rfl) | (simp [*, errW_none, errW_some] <;> rfl), uB HB.out⟩
 ·rw [if_neg c2] at H
  have c2b0 : ((a0.size : Int) == 7) = false := beq_eq_false_iff_ne.mpr c2
  have c2b1 : ((a0.size : Int) != 7) = true := bne_iff_ne.mpr c2
  simp only [Option.some.injEq, Prod.mk.injEq] at H
  obtain ⟨rfl, rfl, rfl⟩ := H
  go_enter Tryz.func76, Tryz.ntmps76
  go_wp2
  go_ret3
  exact ⟨by first | rfl | (simp [errW_none, errW_some] <;> rfl) | (simp [*, errW_none, errW_some] <;> rfl), uB HB.out⟩

end Go.Proofs.YthblghfobnhoeaaGreat.A
namespace Go.Proofs.YthblghfobnhoeaaGreat.H
open Go.RowKit Go.Shelf Go.Proofs.YthblghfobnhoeaaGreatW.PrintWords
set_option linter.unusedVariables false

/-- The numbers of package strings' Builder here. -/
def bren : Go.Shelf.Ren := ⟨fun | 166 => 54 | 167 => 71 | 169 => 56 | 240 => 82 | 276 => 108 | n => n,
 fun | 0 => 0 | 3 => 3 | 4 => 4 | 5 => 5 | 9 => 9 | 20 => 20 | 37 => 69 | 70 => 76 | 72 => 78 | 75 => 81 | 80 => 85 | 127 => 109 | 164 => 129 | n => n, fun | n => n⟩
theorem lays240 : Go.Proofs.Lays.n240 Tryz.prog bren := {
 mixed := by kernel_rfl
 f240 := Tryz.func82.trans (congrArg some (by kernel_rfl))
 f276 := Tryz.func108.trans (congrArg some (by kernel_rfl))
 t0 := Tryz.underlying0
 a0 := Tryz.isAgg0
 z0 := Tryz.sizeOf0
 v0 := Tryz.zeroValue0
 t4 := Tryz.underlying4
 a4 := Tryz.isAgg4
 z4 := Tryz.sizeOf4
 v4 := Tryz.zeroValue4
 t9 := Tryz.underlying9
 a9 := Tryz.isAgg9
 z9 := Tryz.sizeOf9
 v9 := Tryz.zeroValue9
 t20 := Tryz.underlying20
 a20 := Tryz.isAgg20
 z20 := Tryz.sizeOf20
 v20 := Tryz.zeroValue20
 t70 := Tryz.underlying76
 a70 := Tryz.isAgg76
 z70 := Tryz.sizeOf76
 v70 := Tryz.zeroValue76
 t72 := Tryz.underlying78
 a72 := Tryz.isAgg78
 z72 := Tryz.sizeOf78
 v72 := Tryz.zeroValue78
 t164 := Tryz.underlying129
 a164 := Tryz.isAgg129
 z164 := Tryz.sizeOf129
 v164 := Tryz.zeroValue129 }
theorem lays166 : Go.Proofs.Lays.n166 Tryz.prog bren := {
 mixed := by kernel_rfl
 f166 := Tryz.func54.trans (congrArg some (by kernel_rfl))
 f240 := Tryz.func82.trans (congrArg some (by kernel_rfl))
 f276 := Tryz.func108.trans (congrArg some (by kernel_rfl))
 t0 := Tryz.underlying0
 a0 := Tryz.isAgg0
 z0 := Tryz.sizeOf0
 v0 := Tryz.zeroValue0
 t3 := Tryz.underlying3
 a3 := Tryz.isAgg3
 z3 := Tryz.sizeOf3
 v3 := Tryz.zeroValue3
 t4 := Tryz.underlying4
 a4 := Tryz.isAgg4
 z4 := Tryz.sizeOf4
 v4 := Tryz.zeroValue4
 t9 := Tryz.underlying9
 a9 := Tryz.isAgg9
 z9 := Tryz.sizeOf9
 v9 := Tryz.zeroValue9
 t20 := Tryz.underlying20
 a20 := Tryz.isAgg20
 z20 := Tryz.sizeOf20
 v20 := Tryz.zeroValue20
 t37 := Tryz.underlying69
 a37 := Tryz.isAgg69
 z37 := Tryz.sizeOf69
 v37 := Tryz.zeroValue69
 t70 := Tryz.underlying76
 a70 := Tryz.isAgg76
 z70 := Tryz.sizeOf76
 v70 := Tryz.zeroValue76
 t72 := Tryz.underlying78
 a72 := Tryz.isAgg78
 z72 := Tryz.sizeOf78
 v72 := Tryz.zeroValue78
 t75 := Tryz.underlying81
 a75 := Tryz.isAgg81
 z75 := Tryz.sizeOf81
 v75 := Tryz.zeroValue81
 t164 := Tryz.underlying129
 a164 := Tryz.isAgg129
 z164 := Tryz.sizeOf129
 v164 := Tryz.zeroValue129 }
theorem lays167 : Go.Proofs.Lays.n167 Tryz.prog bren := {
 mixed := by kernel_rfl
 f167 := Tryz.func71.trans (congrArg some (by kernel_rfl))
 f240 := Tryz.func82.trans (congrArg some (by kernel_rfl))
 f276 := Tryz.func108.trans (congrArg some (by kernel_rfl))
 t0 := Tryz.underlying0
 a0 := Tryz.isAgg0
 z0 := Tryz.sizeOf0
 v0 := Tryz.zeroValue0
 t4 := Tryz.underlying4
 a4 := Tryz.isAgg4
 z4 := Tryz.sizeOf4
 v4 := Tryz.zeroValue4
 t5 := Tryz.underlying5
 a5 := Tryz.isAgg5
 z5 := Tryz.sizeOf5
 v5 := Tryz.zeroValue5
 t9 := Tryz.underlying9
 a9 := Tryz.isAgg9
 z9 := Tryz.sizeOf9
 v9 := Tryz.zeroValue9
 t20 := Tryz.underlying20
 a20 := Tryz.isAgg20
 z20 := Tryz.sizeOf20
 v20 := Tryz.zeroValue20
 t37 := Tryz.underlying69
 a37 := Tryz.isAgg69
 z37 := Tryz.sizeOf69
 v37 := Tryz.zeroValue69
 t70 := Tryz.underlying76
 a70 := Tryz.isAgg76
 z70 := Tryz.sizeOf76
 v70 := Tryz.zeroValue76
 t72 := Tryz.underlying78
 a72 := Tryz.isAgg78
 z72 := Tryz.sizeOf78
 v72 := Tryz.zeroValue78
 t75 := Tryz.underlying81
 a75 := Tryz.isAgg81
 z75 := Tryz.sizeOf81
 v75 := Tryz.zeroValue81
 t164 := Tryz.underlying129
 a164 := Tryz.isAgg129
 z164 := Tryz.sizeOf129
 v164 := Tryz.zeroValue129 }
theorem lays169 : Go.Proofs.Lays.n169 Tryz.prog bren := {
 mixed := by kernel_rfl
 f169 := Tryz.func56.trans (congrArg some (by kernel_rfl))
 t0 := Tryz.underlying0
 a0 := Tryz.isAgg0
 z0 := Tryz.sizeOf0
 v0 := Tryz.zeroValue0
 t3 := Tryz.underlying3
 a3 := Tryz.isAgg3
 z3 := Tryz.sizeOf3
 v3 := Tryz.zeroValue3
 t9 := Tryz.underlying9
 a9 := Tryz.isAgg9
 z9 := Tryz.sizeOf9
 v9 := Tryz.zeroValue9
 t37 := Tryz.underlying69
 a37 := Tryz.isAgg69
 z37 := Tryz.sizeOf69
 v37 := Tryz.zeroValue69
 t70 := Tryz.underlying76
 a70 := Tryz.isAgg76
 z70 := Tryz.sizeOf76
 v70 := Tryz.zeroValue76
 t72 := Tryz.underlying78
 a72 := Tryz.isAgg78
 z72 := Tryz.sizeOf78
 v72 := Tryz.zeroValue78
 t127 := Tryz.underlying109
 a127 := Tryz.isAgg109
 z127 := Tryz.sizeOf109
 v127 := Tryz.zeroValue109 }
theorem bextra : Builder.Extra Tryz.prog bren := {
 sizeBuilder := by kernel_rfl
 liesBuilder := by kernel_rfl
 t5 := Tryz.underlying5
 a5 := Tryz.isAgg5
 z5 := Tryz.sizeOf5
 v5 := Tryz.zeroValue5
 infoByte := by kernel_rfl
 cellsByte := by kernel_rfl
 sizeByte := by kernel_rfl
 neB5 := by decide }

/-- A builder of the call's own (from block B on), at block b, that holds these bytes. -/
def Bld (B b : Nat) (l : List UInt8) (w : World) : Prop := Lib.IsBuilderF 78 5 B b (Lib.byteCells l) w
/-- What stays: all blocks but the builder's own and rows of bytes. -/
abbrev Oth (b : Nat) (w w' : World) : Prop := Lib.OthersKept 5 (some b) w w'

theorem bld_writeString (B b : Nat) (l : List UInt8) (s : ByteArray) (w : World) (h : Bld B b l w) (hlen : l.length + s.size ≤ 140737488355328) (hb : B ≤ w.heap.size) :
  Calls Tryz.prog 54 #[.pointer (some ⟨b, 0, none⟩), .string s] w fun e w' => e = .returned (.tuple #[.int .i64 s.size, .nilIface]) ∧ (Bld B b (l ++ s.data.toList) w' ∧ Below B w w' ∧ Oth b w w') := by
 refine (Any.Builder_WriteString_k lays166 bextra B b (Lib.byteCells l) s w h (by simpa [Lib.byteCells] using hlen) hb).mono ?_
 rintro e w' ⟨he, h1, h2⟩
 refine ⟨he, Or.inr ?_, h2⟩
 have e2 : Lib.byteCells (l ++ s.data.toList) = Lib.byteCells l ++ Lib.strCells s := by simp [Lib.byteCells, Lib.strCells]
 rw [e2]
 exact h1

theorem bld_writeByte (B b : Nat) (l : List UInt8) (c : UInt8) (w : World) (h : Bld B b l w) (hlen : l.length + 1 ≤ 140737488355328) (hb : B ≤ w.heap.size) :
  Calls Tryz.prog 71 #[.pointer (some ⟨b, 0, none⟩), .int .u8 c.toNat] w fun e w' => e = .returned .nilIface ∧ (Bld B b (l ++ [c]) w' ∧ Below B w w' ∧ Oth b w w') := by
 refine (Any.Builder_WriteByte_k lays167 bextra B b (Lib.byteCells l) c.toNat w h (by simpa [Lib.byteCells] using hlen) hb).mono ?_
 rintro e w' ⟨he, h1, h2⟩
 refine ⟨he, Or.inr ?_, h2⟩
 have e2 : Lib.byteCells (l ++ [c]) = Lib.byteCells l ++ [.int .u8 c.toNat] := by simp [Lib.byteCells]
 rw [e2]
 exact h1

theorem bld_string (B b : Nat) (l : List UInt8) (w : World) (h : Bld B b l w) (hb : B ≤ w.heap.size) :
  Calls Tryz.prog 56 #[.pointer (some ⟨b, 0, none⟩)] w fun e w' => e = .returned (.string ⟨l.toArray⟩) ∧ Below B w w' :=
 (Any.Builder_String_any_k lays169 bextra B b l w h hb).mono fun _ _ h => ⟨h.1, h.2.2.1⟩

theorem bld_check (B b : Nat) (l : List UInt8) (w : World) (h : Bld B b l w) :
  Calls Tryz.prog 82 #[.pointer (some ⟨b, 0, none⟩)] w fun e w' => e = .returned (.tuple #[]) ∧ (Lib.BuilderAtF 78 5 B b (.pointer (some ⟨b, 0, none⟩)) (Lib.byteCells l) w' ∧ (w' = w ∨ w' = w.setCell ⟨b, 0, none⟩ (.pointer (some ⟨b, 0, none⟩)))) := by
 rcases h with h | h
 ·refine (Any.Builder_copyCheck_fresh lays240 bextra.toX72 b w h.cell0 h.shape h.frozen0).mono ?_
  rintro e w' ⟨rfl, rfl⟩
  exact ⟨rfl, h.used _, .inr rfl⟩
 ·refine (Any.Builder_copyCheck_used lays240 bextra.toX72 b w h.cell0).mono ?_
  rintro e w' ⟨rfl, rfl⟩
  exact ⟨rfl, h, .inl rfl⟩

set_option maxRecDepth 100000 in
set_option maxHeartbeats 2000000 in
theorem bld_write (B b : Nat) (l : List UInt8) (xs : List UInt8) (ad : Addr) (m c : Nat) (w : World) (h : Bld B b l w) (hl : xs.length = m)
  (hx : ∀ j u, (Lib.byteCells xs)[j]? = some u → w.cell? (ad.add j) = some u) (had : ad.block ≠ b) (hlen : l.length + m ≤ 140737488355328) (hb : B ≤ w.heap.size) :
  Calls Tryz.prog 70 #[.pointer (some ⟨b, 0, none⟩), .slice (some ad) m c] w fun e w' => e = .returned (.tuple #[.int .i64 m, .nilIface]) ∧ (Bld B b (l ++ xs) w' ∧ Below B w w' ∧ Oth b w w') := by
 obtain ⟨i0, hi, hz0, hz1, hz2⟩ := info_parts bextra.infoByte
 have hBb : B ≤ b := by rcases h with h | h <;> exact h.1
 go_enter Tryz.func70, Tryz.ntmps70
 go_wp2_with (go_at_call 82; refine (bld_check _ _ _ _ h).mono ?_)
 rintro e w1 ⟨rfl, h1, hw⟩
 have hs1 : w.heap.size = w1.heap.size := by
  rcases hw with rfl | rfl
  ·rfl
  ·simp
 have hb1 : Below B w w1 := by
  rcases hw with rfl | rfl
  ·exact Below.refl _ _
  ·exact (Below.refl B w).setCell (p := ⟨b, 0, none⟩) hBb _
 have hk1 : Oth b w w1 := by
  rcases hw with rfl | rfl
  ·exact Lib.OthersKept.refl _ _ _
  ·exact (Lib.OthersKept.refl _ _ w).setCell ⟨b, 0, none⟩ rfl _
 have hx1 : ∀ j u, (Lib.byteCells xs)[j]? = some u → w1.cell? (ad.add j) = some u := by
  intro j u hj
  rcases hw with rfl | rfl
  ·exact hx j u hj
  ·have hne : (ad.add j).block ≠ b := by unfold Addr.add; split <;> exact had
   exact (cell_far (p := ⟨b, 0, none⟩) hne _).trans (hx j u hj)
 clear hw hx h
 obtain ⟨hB, v, hbk, hown, hne⟩ := h1
 have c0 : w1.cell? ⟨b, 0, none⟩ = some (.pointer (some ⟨b, 0, none⟩)) := by rw [Lib.cell_of_heap hbk]; rfl
 have c1 : w1.cell? ⟨b, 1, none⟩ = some v := by rw [Lib.cell_of_heap hbk]; rfl
 have hll : (Lib.byteCells l).length = l.length := by simp [Lib.byteCells]
 have hxl : (Lib.byteCells xs).length = m := by simp [Lib.byteCells, hl]
 have h1c : ∀ u ∈ Lib.byteCells xs, u.oneCell' = true := by
  intro u hu
  simp [Lib.byteCells] at hu
  obtain ⟨x, _, rfl⟩ := hu
  rfl
 rw [hll] at hown
 have HS := Lib.hid hs1
 have HX := Lib.hid hx1
 have HLL := Lib.hid hll
 have HXL := Lib.hid hxl
 have HK := Lib.hid hk1
 clear hs1 hx1 hll hxl hk1
 go_wp2_with (at_builtin; refine wpList_append_ownF _ rfl _ _ 69 rfl B 5 i0 (.int .u8 0) 1 1 Tryz.underlying69 hi hz0 hz1 hz2 rfl (by decide) _ _ _ rfl hown ad m c (Lib.byteCells xs) rfl (by have := HXL.out; omega) HX.out h1c ?c3 ?c4 ?c5 ?_)
 case c3 => unfold maxLen; omega
 case c4 => omega
 case c5 => have := HS.out; omega
 intro v' w2 hown' hgrow _
 have hlt : b < w1.heap.size := by
  rcases Nat.lt_or_ge b w1.heap.size with h' | h'
  ·exact h'
  ·simp [Array.getElem?_eq_none h'] at hbk
 have hb2 : w2.heap[b]? = some (.cells #[.pointer (some ⟨b, 0, none⟩), v] 78 (0, 0)) := by
  rw [hgrow.block b hlt (fun e => hne e.symm)]
  exact hbk
 have d0 : w2.cell? ⟨b, 0, none⟩ = some (.pointer (some ⟨b, 0, none⟩)) := by rw [Lib.cell_of_heap hb2]; rfl
 have d1 : w2.cell? ⟨b, 1, none⟩ = some v := by rw [Lib.cell_of_heap hb2]; rfl
 have f1 : w2.frozen? ⟨b, 1, none⟩ = false := Lib.frozen_of_heap hb2 1
 obtain ⟨ao, n', cap, rfl⟩ : ∃ ao n' cap, v' = .slice ao n' cap := by
  rcases hown'.2 with ⟨hv, _⟩ | ⟨g, cap, cur, fz, hv, _⟩
  ·exact ⟨_, _, _, hv⟩
  ·exact ⟨_, _, _, hv⟩
 go_wp2
 go_ret2
 have e2 : Lib.byteCells (l ++ xs) = Lib.byteCells l ++ Lib.byteCells xs := by simp [Lib.byteCells]
 refine ⟨rfl, ?_, ?_, (HK.out.grown hgrow (Lib.ownsRowF_kind hown)).setCell ⟨b, 1, none⟩ rfl _⟩
 ·refine Or.inr ?_
  rw [e2]
  exact Lib.BuilderAtF.put (T := 78) (e := 5) hB hb2 (bs' := Lib.byteCells l ++ Lib.byteCells xs) (by simpa [HLL.out, HXL.out] using hown') (by decide)
 ·exact (hb1.grown hgrow (by have := hb1.size; omega) (fun k hk => (hown.lt k hk).1)).setCell (p := ⟨b, 1, none⟩) hB _

/-- A builder that nothing has touched. -/
theorem Bld.new (B : Nat) (w : World) (hB : B ≤ w.heap.size) : Bld B w.heap.size [] (w.alloc (.cells #[.pointer none, .slice none 0 0] 78)) := by
 refine Or.inl ⟨hB, .slice none 0 0, ?_, World.ownsRowF_nil _ _ _ _, by simp [Value.ownBlock]⟩
 show (w.heap.push _)[w.heap.size]? = _
 rw [Array.getElem?_push, if_pos rfl]
/-- A builder stays where all that was there stays. -/
theorem Bld.stays {B b : Nat} {l : List UInt8} {w w' : World} (h : Bld B b l w) (hs : ∀ k, k < w.heap.size → w'.heap[k]? = w.heap[k]?) : Bld B b l w' := by
 have key : ∀ p, Lib.BuilderAtF 78 5 B b p (Lib.byteCells l) w → Lib.BuilderAtF 78 5 B b p (Lib.byteCells l) w' := by
  rintro p ⟨hB, v, hb, hown, hne⟩
  have hlt : b < w.heap.size := (Array.getElem?_eq_some_iff.1 hb).1
  refine ⟨hB, v, by rw [hs b hlt]; exact hb, ?_, hne⟩
  obtain ⟨h1, h2⟩ := hown
  refine ⟨h1, ?_⟩
  rcases h2 with h2 | ⟨g, cap, cur, fz, hv, hg, hh, hr⟩
  ·exact .inl h2
  ·have hlt2 : g < w.heap.size := (Array.getElem?_eq_some_iff.1 hh).1
   exact .inr ⟨g, cap, cur, fz, hv, hg, by rw [hs g hlt2]; exact hh, hr⟩
 rcases h with h | h
 ·exact .inl (key _ h)
 ·exact .inr (key _ h)

end Go.Proofs.YthblghfobnhoeaaGreat.H
namespace Go.Proofs.YthblghfobnhoeaaGreat.H
open Go.RowKit Go.Proofs.YthblghfobnhoeaaGreatW.PrintWords
set_option linter.unusedVariables false

/-- What dirrecord.Encode holds: the record at block R, the error at block W, the builder at block b; all of the call's own, made from world w0 on. -/
structure Enc (R W b : Nat) (cs : Array Value) (w0 w : World) (e : Int) (l : List UInt8) : Prop where
 rc : w.heap[R]? = some (.cells cs 45 (0, 0))
 wr : w.heap[W]? = some (.cells #[.int .i64 e] 40 (0, 0))
 bl : Bld w0.heap.size b l w
 be : Below w0.heap.size w0 w
 nR : R ≠ b
 nW : W ≠ b
 nRW : R ≠ W
 gW : w0.heap.size ≤ W

theorem Enc.stays {R W b : Nat} {cs : Array Value} {w0 w w' : World} {e : Int} {l : List UInt8} (h : Enc R W b cs w0 w e l) (hb : Below w.heap.size w w') : Enc R W b cs w0 w' e l where
 rc := by rw [hb.block R (Array.getElem?_eq_some_iff.1 h.rc).1]; exact h.rc
 wr := by rw [hb.block W (Array.getElem?_eq_some_iff.1 h.wr).1]; exact h.wr
 bl := h.bl.stays fun k hk => hb.block k hk
 be := h.be.trans (hb.mono h.be.size)
 nR := h.nR
 nW := h.nW
 nRW := h.nRW
 gW := h.gW
theorem Enc.alloc {R W b : Nat} {cs : Array Value} {w0 w : World} {e : Int} {l : List UInt8} (h : Enc R W b cs w0 w e l) (o : Obj) : Enc R W b cs w0 (w.alloc o) e l :=
 h.stays ((Below.refl _ _).alloc (Nat.le_refl _) _)
theorem Enc.drew {R W b : Nat} {cs : Array Value} {w0 w : World} {e : Int} {l : List UInt8} (h : Enc R W b cs w0 w e l) : Enc R W b cs w0 w.drew e l :=
 h.stays (Below.refl _ _).drew
theorem Enc.wrote {R W b : Nat} {cs : Array Value} {w0 w w' : World} {e : Int} {l l' : List UInt8} (h : Enc R W b cs w0 w e l) (hb : Bld w0.heap.size b l' w') (hk : Oth b w w') (hw : Below w0.heap.size w w') : Enc R W b cs w0 w' e l' where
 rc := hk R _ h.rc (by simp [h.nR]) (by intro c fz; simp)
 wr := hk W _ h.wr (by simp [h.nW]) (by intro c fz; simp)
 bl := hb
 be := h.be.trans hw
 nR := h.nR
 nW := h.nW
 nRW := h.nRW
 gW := h.gW
theorem blk_other {w : World} {k g : Nat} {o : Obj} (h : w.heap[k]? = some o) (hne : k ≠ g) (i : Nat) (v : Value) : (w.setCell ⟨g, i, none⟩ v).heap[k]? = some o := by
 rw [Below.heap_setCell _ _ _ _ hne]; exact h
theorem Enc.set {R W b : Nat} {cs : Array Value} {w0 w : World} {e : Int} {l : List UInt8} (h : Enc R W b cs w0 w e l) (e' : Int) : Enc R W b cs w0 (w.setCell ⟨W, 0, none⟩ (.int .i64 e')) e' l where
 rc := blk_other h.rc h.nRW _ _
 wr := blk_put h.wr 0 _ rfl
 bl := by
  have key : ∀ p, Lib.BuilderAtF 78 5 w0.heap.size b p (Lib.byteCells l) w → Lib.BuilderAtF 78 5 w0.heap.size b p (Lib.byteCells l) (w.setCell ⟨W, 0, none⟩ (.int .i64 e')) := by
   rintro p ⟨hB, v, hb, hown, hne⟩
   refine ⟨hB, v, blk_other hb h.nW.symm _ _, ?_, hne⟩
   obtain ⟨h1, h2⟩ := hown
   refine ⟨h1, ?_⟩
   rcases h2 with h2 | ⟨g, cap, cur, fz, hv, hg, hh, hr⟩
   ·exact .inl h2
   ·refine .inr ⟨g, cap, cur, fz, hv, hg, blk_other hh ?_ _ _, hr⟩
    rintro rfl
    rw [h.wr] at hh
    simp at hh
  rcases h.bl with h1 | h1
  ·exact .inl (key _ h1)
  ·exact .inr (key _ h1)
 be := h.be.setCell (p := ⟨W, 0, none⟩) h.gW _
 nR := h.nR
 nW := h.nW
 nRW := h.nRW
 gW := h.gW
theorem Enc.cellR {R W b : Nat} {cs : Array Value} {w0 w : World} {e : Int} {l : List UInt8} (h : Enc R W b cs w0 w e l) (i : Nat) : w.cell? ⟨R, i, none⟩ = cs[i]? := by
 simp [World.cell?, h.rc]
theorem Enc.cellW {R W b : Nat} {cs : Array Value} {w0 w : World} {e : Int} {l : List UInt8} (h : Enc R W b cs w0 w e l) : w.cell? ⟨W, 0, none⟩ = some (.int .i64 e) := by
 simp [World.cell?, h.wr]
theorem Enc.frozenW {R W b : Nat} {cs : Array Value} {w0 w : World} {e : Int} {l : List UInt8} (h : Enc R W b cs w0 w e l) : w.frozen? ⟨W, 0, none⟩ = false := by
 simp [World.frozen?, h.wr]
theorem Enc.base {R W b : Nat} {cs : Array Value} {w0 w : World} {e : Int} {l : List UInt8} (h : Enc R W b cs w0 w e l) : w0.heap.size ≤ w.heap.size := h.be.size

/-- An error that is nought leaves the elder one. -/
def ee (e e1 : Int) : Int := if e1 = 0 then e else e1

theorem enc_ws {R W b : Nat} {cs : Array Value} {w0 w : World} {e : Int} {l : List UInt8} (h : Enc R W b cs w0 w e l) (s : ByteArray) (hlen : l.length + s.size ≤ 140737488355328) :
  Calls Tryz.prog 54 #[.pointer (some ⟨b, 0, none⟩), .string s] w fun ev w' => ev = .returned (.tuple #[.int .i64 s.size, .nilIface]) ∧ Enc R W b cs w0 w' e (l ++ s.data.toList) ∧ Oth b w w' :=
 (bld_writeString _ _ _ _ _ h.bl hlen h.base).mono fun _ _ ⟨he, hb, hw, hk⟩ => ⟨he, h.wrote hb hk hw, hk⟩
theorem enc_wb {R W b : Nat} {cs : Array Value} {w0 w : World} {e : Int} {l : List UInt8} (h : Enc R W b cs w0 w e l) (c : UInt8) (v : Int) (hv : (c.toNat : Int) = v) (hlen : l.length + 1 ≤ 140737488355328) :
  Calls Tryz.prog 71 #[.pointer (some ⟨b, 0, none⟩), .int .u8 v] w fun ev w' => ev = .returned .nilIface ∧ Enc R W b cs w0 w' e (l ++ [c]) := by
 subst hv
 exact (bld_writeByte _ _ _ _ _ h.bl hlen h.base).mono fun _ _ ⟨he, hb, hw, hk⟩ => ⟨he, h.wrote hb hk hw⟩
theorem enc_w {R W b : Nat} {cs : Array Value} {w0 w : World} {e : Int} {l : List UInt8} (h : Enc R W b cs w0 w e l) (xs : List UInt8) (m : Nat) (hm : xs.length = m) (g c : Nat) (vs : Array Value) (hx : w.heap[g]? = some (.cells vs 5 (0, 0))) (hv : Lib.byteCells xs = vs.toList) (hg : g ≠ b) (hlen : l.length + m ≤ 140737488355328) :
  Calls Tryz.prog 70 #[.pointer (some ⟨b, 0, none⟩), .slice (some ⟨g, 0, none⟩) m c] w fun ev w' => ev = .returned (.tuple #[.int .i64 m, .nilIface]) ∧ Enc R W b cs w0 w' e (l ++ xs) := by
 subst hm
 refine (bld_write _ _ _ xs ⟨g, 0, none⟩ _ _ _ h.bl rfl ?_ hg hlen h.base).mono fun _ _ ⟨he, hb, hw, hk⟩ => ⟨he, h.wrote hb hk hw⟩
 intro j u hj
 have : (⟨g, 0, none⟩ : Addr).add j = ⟨g, j, none⟩ := by unfold Addr.add; split <;> simp_all
 rw [this]
 rw [hv] at hj
 simp [World.cell?, hx]
 simpa using hj

theorem Enc.start (cs : Array Value) (e : Int) (w w1 : World) (nd : Nat) (hb : Below (w.heap.size + 1) ((w.alloc (.cells cs 45)).drewN nd) w1) :
  Enc w.heap.size w1.heap.size (w1.heap.size + 1) cs w ((w1.alloc (.cells #[.int .i64 e] 40)).alloc (.cells #[.pointer none, .slice none 0 0] 78)) e [] := by
 have hs : w.heap.size + 1 ≤ w1.heap.size := by
  have := hb.size
  simpa [World.drewN] using this
 have hR : w1.heap[w.heap.size]? = some (.cells cs 45 (0, 0)) := by
  rw [hb.block _ (Nat.lt_succ_self _)]
  show (w.heap.push _)[w.heap.size]? = _
  rw [Array.getElem?_push, if_pos rfl]
 have hbe : Below w.heap.size w w1 := by
  refine Below.trans ((below_drewN ((Below.refl _ w).alloc (Nat.le_refl _) (.cells cs 45)) nd)) (hb.mono (by omega))
 refine ⟨?_, ?_, ?_, (hbe.alloc (by omega) _).alloc (by simp; omega) _, by omega, by omega, by omega, by omega⟩
 ·show ((w1.heap.push _).push _)[w.heap.size]? = _
  rw [Array.getElem?_push, if_neg (by simp; omega), Array.getElem?_push, if_neg (by omega)]
  exact hR
 ·show ((w1.heap.push _).push _)[w1.heap.size]? = _
  rw [Array.getElem?_push, if_neg (by simp), Array.getElem?_push, if_pos rfl]
 ·have := Bld.new w.heap.size (w1.alloc (.cells #[.int .i64 e] 40)) (by simp; omega)
  simpa using this

/-- A block that was just made. -/
theorem blk_new (w : World) (c : Array Value) (t : TypeId) : (w.alloc (.cells c t)).heap[w.heap.size]? = some (.cells c t (0, 0)) := by
 show (w.heap.push _)[w.heap.size]? = _
 rw [Array.getElem?_push, if_pos rfl]
theorem enc_wn {R W b : Nat} {cs : Array Value} {w0 w : World} {e : Int} {l : List UInt8} (h : Enc R W b cs w0 w e l) (xs : List UInt8) (m : Nat) (hm : xs.length = m) (g c : Nat) (hg : g = w.heap.size) (vs : Array Value) (hv : Lib.byteCells xs = vs.toList) (hb : b < g) (hlen : l.length + m ≤ 140737488355328) :
  Calls Tryz.prog 70 #[.pointer (some ⟨b, 0, none⟩), .slice (some ⟨g, 0, none⟩) m c] (w.alloc (.cells vs 5)) fun ev w' => ev = .returned (.tuple #[.int .i64 m, .nilIface]) ∧ Enc R W b cs w0 w' e (l ++ xs) := by
 subst hg
 exact enc_w (h.alloc _) xs m hm _ c vs (blk_new _ _ _) hv (by omega) hlen
theorem Enc.ltb {R W b : Nat} {cs : Array Value} {w0 w : World} {e : Int} {l : List UInt8} (h : Enc R W b cs w0 w e l) : b < w.heap.size := by
 rcases h.bl with h | h <;> exact h.lt
theorem Enc.ltW {R W b : Nat} {cs : Array Value} {w0 w : World} {e : Int} {l : List UInt8} (h : Enc R W b cs w0 w e l) : W < w.heap.size := (Array.getElem?_eq_some_iff.1 h.wr).1
theorem enc_str {R W b : Nat} {cs : Array Value} {w0 w : World} {e : Int} {l : List UInt8} (h : Enc R W b cs w0 w e l) :
  Calls Tryz.prog 56 #[.pointer (some ⟨b, 0, none⟩)] w fun ev w' => ev = .returned (.string ⟨l.toArray⟩) ∧ Below w0.heap.size w0 w' :=
 (bld_string _ _ _ _ h.bl h.base).mono fun _ _ ⟨he, hw⟩ => ⟨he, h.be.trans hw⟩

end Go.Proofs.YthblghfobnhoeaaGreat.H
namespace Go.Proofs.YthblghfobnhoeaaGreat.H
open Go.RowKit Go.Proofs.YthblghfobnhoeaaGreatW.PrintWords
set_option linter.unusedVariables false

set_option maxRecDepth 100000 in
set_option maxHeartbeats 8000000 in
theorem enc1_twoz {R W b : Nat} {cs : Array Value} {w0 w : World} {e : Int} {l : List UInt8} (h : Enc R W b cs w0 w e l) (g : Nat) (n0 z0 : Int) (s0 : ByteArray)
  (hg : w.heap[g]? = some (.cells #[.int .i64 n0, .int .i64 z0] 3 (0, 0))) (gb : g ≠ b) (gW : g ≠ W) (hB0 : endian_Both.f n0 z0 = some (s0, 0)) (hs0 : s0.size ≤ 1000) (hl : l.length ≤ 1000000) :
  Calls Tryz.prog 68 #[.slice (some ⟨g, 0, none⟩) 2 2, .pointer (some ⟨W, 0, none⟩), .pointer (some ⟨b, 0, none⟩)] w fun ev w' => ev = .returned (.tuple #[]) ∧ Enc R W b cs w0 w' e (l ++ s0.data.toList) := by
 have c0 : w.cell? ⟨g, 0, none⟩ = some (.int .i64 n0) := by simp [World.cell?, hg]
 have c1 : w.cell? ⟨g, 1, none⟩ = some (.int .i64 z0) := by simp [World.cell?, hg]
 have v1 : IntKind.i64.wrap 1 = 1 := by decide
 have v2 : IntKind.i64.wrap 2 = 2 := by decide
 have v3 : IntKind.i64.wrap 3 = 3 := by decide
 have HG := Lib.hid hg
 have HB0 := Lib.hid hB0
 clear hg hB0
 go_enter Tryz.func68, Tryz.ntmps68
 go_wp2
 refine wp_loop_rounds 2 ?_
 rw [rounds_succ]
 go_wp2
 go_region_held3 (fun w' => w'.cell? ⟨g, 0, none⟩ = some (.int .i64 n0) ∧ w'.cell? ⟨g, 1, none⟩ = some (.int .i64 z0)) (first | go_keep | (go_split_ands; refine ⟨?_, ?_⟩ <;> (rw [hb0.cell (World.block_lt_of_cell? _ _ (by assumption))]; assumption)))
  (first | (go_at_call 69; refine (endian_Both.calls _ _ _ _ _ HB0.out).mono ?_; rintro ev wa0 ⟨rfl, hb0⟩))
 have ha0 := h.drew.stays hb0
 have hc0 := ha0
 go_wp2_with fail
 refine (enc_ws hc0 s0 (by omega)).mono ?_
 rintro ev wb0 ⟨rfl, hd0, hk0⟩
 clear hk0 hb0
 go_wp2
 rw [rounds_succ]
 go_wp2
 go_end0
 exact ⟨rfl, hd0⟩

set_option maxRecDepth 100000 in
set_option maxHeartbeats 8000000 in
theorem enc1_twoe {R W b : Nat} {cs : Array Value} {w0 w : World} {e : Int} {l : List UInt8} (h : Enc R W b cs w0 w e l) (g : Nat) (n0 z0 e0 : Int) (s0 : ByteArray)
  (hg : w.heap[g]? = some (.cells #[.int .i64 n0, .int .i64 z0] 3 (0, 0))) (gb : g ≠ b) (gW : g ≠ W) (hB0 : endian_Both.f n0 z0 = some (s0, e0)) (hs0 : s0.size ≤ 1000) (hn0 : (e0 != 0) = true) (hl : l.length ≤ 1000000) :
  Calls Tryz.prog 68 #[.slice (some ⟨g, 0, none⟩) 2 2, .pointer (some ⟨W, 0, none⟩), .pointer (some ⟨b, 0, none⟩)] w fun ev w' => ev = .returned (.tuple #[]) ∧ Enc R W b cs w0 w' e0 (l ++ s0.data.toList) := by
 have c0 : w.cell? ⟨g, 0, none⟩ = some (.int .i64 n0) := by simp [World.cell?, hg]
 have c1 : w.cell? ⟨g, 1, none⟩ = some (.int .i64 z0) := by simp [World.cell?, hg]
 have v1 : IntKind.i64.wrap 1 = 1 := by decide
 have v2 : IntKind.i64.wrap 2 = 2 := by decide
 have v3 : IntKind.i64.wrap 3 = 3 := by decide
 have HG := Lib.hid hg
 have HB0 := Lib.hid hB0
 clear hg hB0
 go_enter Tryz.func68, Tryz.ntmps68
 go_wp2
 refine wp_loop_rounds 2 ?_
 rw [rounds_succ]
 go_wp2
 go_region_held3 (fun w' => w'.cell? ⟨g, 0, none⟩ = some (.int .i64 n0) ∧ w'.cell? ⟨g, 1, none⟩ = some (.int .i64 z0)) (first | go_keep | (go_split_ands; refine ⟨?_, ?_⟩ <;> (rw [hb0.cell (World.block_lt_of_cell? _ _ (by assumption))]; assumption)))
  (first | (go_at_call 69; refine (endian_Both.calls _ _ _ _ _ HB0.out).mono ?_; rintro ev wa0 ⟨rfl, hb0⟩))
 have ha0 := h.drew.stays hb0
 have cW0 := ha0.cellW
 have fW0 := ha0.frozenW
 have hc0 := ha0.set e0
 go_wp2_with fail
 refine (enc_ws hc0 s0 (by omega)).mono ?_
 rintro ev wb0 ⟨rfl, hd0, hk0⟩
 clear hk0 hb0 cW0 fW0
 go_wp2
 rw [rounds_succ]
 go_wp2
 go_end0
 exact ⟨rfl, hd0⟩

set_option maxRecDepth 100000 in
set_option maxHeartbeats 8000000 in
theorem enc1_fourzz {R W b : Nat} {cs : Array Value} {w0 w : World} {e : Int} {l : List UInt8} (h : Enc R W b cs w0 w e l) (g : Nat) (n0 z0 n1 z1 : Int) (s0 s1 : ByteArray)
  (hg : w.heap[g]? = some (.cells #[.int .i64 n0, .int .i64 z0, .int .i64 n1, .int .i64 z1] 3 (0, 0))) (gb : g ≠ b) (gW : g ≠ W) (hB0 : endian_Both.f n0 z0 = some (s0, 0)) (hs0 : s0.size ≤ 1000) (hB1 : endian_Both.f n1 z1 = some (s1, 0)) (hs1 : s1.size ≤ 1000) (hl : l.length ≤ 1000000) :
  Calls Tryz.prog 68 #[.slice (some ⟨g, 0, none⟩) 4 4, .pointer (some ⟨W, 0, none⟩), .pointer (some ⟨b, 0, none⟩)] w fun ev w' => ev = .returned (.tuple #[]) ∧ Enc R W b cs w0 w' e ((l ++ s0.data.toList) ++ s1.data.toList) := by
 have c0 : w.cell? ⟨g, 0, none⟩ = some (.int .i64 n0) := by simp [World.cell?, hg]
 have c1 : w.cell? ⟨g, 1, none⟩ = some (.int .i64 z0) := by simp [World.cell?, hg]
 have c2 : w.cell? ⟨g, 2, none⟩ = some (.int .i64 n1) := by simp [World.cell?, hg]
 have c3 : w.cell? ⟨g, 3, none⟩ = some (.int .i64 z1) := by simp [World.cell?, hg]
 have v1 : IntKind.i64.wrap 1 = 1 := by decide
 have v2 : IntKind.i64.wrap 2 = 2 := by decide
 have v3 : IntKind.i64.wrap 3 = 3 := by decide
 have v4 : IntKind.i64.wrap 4 = 4 := by decide
 have v5 : IntKind.i64.wrap 5 = 5 := by decide
 have HG := Lib.hid hg
 have HB0 := Lib.hid hB0
 have HB1 := Lib.hid hB1
 clear hg hB0 hB1
 go_enter Tryz.func68, Tryz.ntmps68
 go_wp2
 refine wp_loop_rounds 3 ?_
 rw [rounds_succ]
 go_wp2
 go_region_held3 (fun w' => w'.cell? ⟨g, 0, none⟩ = some (.int .i64 n0) ∧ w'.cell? ⟨g, 1, none⟩ = some (.int .i64 z0)) (first | go_keep | (go_split_ands; refine ⟨?_, ?_⟩ <;> (rw [hb0.cell (World.block_lt_of_cell? _ _ (by assumption))]; assumption)))
  (first | (go_at_call 69; refine (endian_Both.calls _ _ _ _ _ HB0.out).mono ?_; rintro ev wa0 ⟨rfl, hb0⟩))
 have ha0 := h.drew.stays hb0
 have HGa := Lib.hid ((hb0.block g (Array.getElem?_eq_some_iff.1 HG.out).1).trans HG.out)
 have hc0 := ha0
 go_wp2_with fail
 refine (enc_ws hc0 s0 (by omega)).mono ?_
 rintro ev wb0 ⟨rfl, hd0, hk0⟩
 have HGb : Hid _ := Lib.hid (hk0 g _ HGa.out (by simp [gb]) (by intro c fz; simp))
 have d2 : wb0.cell? ⟨g, 2, none⟩ = some (.int .i64 n1) := by simp [World.cell?, HGb.out]
 have d3 : wb0.cell? ⟨g, 3, none⟩ = some (.int .i64 z1) := by simp [World.cell?, HGb.out]
 clear c0 c1 c2 c3
 clear hk0 hb0
 go_wp2
 rw [rounds_succ]
 go_wp2
 go_region_held3 (fun w' => w'.cell? ⟨g, 2, none⟩ = some (.int .i64 n1) ∧ w'.cell? ⟨g, 3, none⟩ = some (.int .i64 z1)) (first | go_keep | (go_split_ands; refine ⟨?_, ?_⟩ <;> (rw [hb1.cell (World.block_lt_of_cell? _ _ (by assumption))]; assumption)))
  (first | (go_at_call 69; refine (endian_Both.calls _ _ _ _ _ HB1.out).mono ?_; rintro ev wa1 ⟨rfl, hb1⟩))
 have ha1 := hd0.drew.stays hb1
 have hc1 := ha1
 go_wp2_with fail
 refine (enc_ws hc1 s1 (by have hq : (l ++ s0.data.toList).length = l.length + s0.size := List.length_append ; omega)).mono ?_
 rintro ev wb1 ⟨rfl, hd1, hk1⟩
 clear hk1 hb1
 go_wp2
 rw [rounds_succ]
 go_wp2
 go_end0
 exact ⟨rfl, hd1⟩

set_option maxRecDepth 100000 in
set_option maxHeartbeats 8000000 in
theorem enc1_fourze {R W b : Nat} {cs : Array Value} {w0 w : World} {e : Int} {l : List UInt8} (h : Enc R W b cs w0 w e l) (g : Nat) (n0 z0 n1 z1 e1 : Int) (s0 s1 : ByteArray)
  (hg : w.heap[g]? = some (.cells #[.int .i64 n0, .int .i64 z0, .int .i64 n1, .int .i64 z1] 3 (0, 0))) (gb : g ≠ b) (gW : g ≠ W) (hB0 : endian_Both.f n0 z0 = some (s0, 0)) (hs0 : s0.size ≤ 1000) (hB1 : endian_Both.f n1 z1 = some (s1, e1)) (hs1 : s1.size ≤ 1000) (hn1 : (e1 != 0) = true) (hl : l.length ≤ 1000000) :
  Calls Tryz.prog 68 #[.slice (some ⟨g, 0, none⟩) 4 4, .pointer (some ⟨W, 0, none⟩), .pointer (some ⟨b, 0, none⟩)] w fun ev w' => ev = .returned (.tuple #[]) ∧ Enc R W b cs w0 w' e1 ((l ++ s0.data.toList) ++ s1.data.toList) := by
 have c0 : w.cell? ⟨g, 0, none⟩ = some (.int .i64 n0) := by simp [World.cell?, hg]
 have c1 : w.cell? ⟨g, 1, none⟩ = some (.int .i64 z0) := by simp [World.cell?, hg]
 have c2 : w.cell? ⟨g, 2, none⟩ = some (.int .i64 n1) := by simp [World.cell?, hg]
 have c3 : w.cell? ⟨g, 3, none⟩ = some (.int .i64 z1) := by simp [World.cell?, hg]
 have v1 : IntKind.i64.wrap 1 = 1 := by decide
 have v2 : IntKind.i64.wrap 2 = 2 := by decide
 have v3 : IntKind.i64.wrap 3 = 3 := by decide
 have v4 : IntKind.i64.wrap 4 = 4 := by decide
 have v5 : IntKind.i64.wrap 5 = 5 := by decide
 have HG := Lib.hid hg
 have HB0 := Lib.hid hB0
 have HB1 := Lib.hid hB1
 clear hg hB0 hB1
 go_enter Tryz.func68, Tryz.ntmps68
 go_wp2
 refine wp_loop_rounds 3 ?_
 rw [rounds_succ]
 go_wp2
 go_region_held3 (fun w' => w'.cell? ⟨g, 0, none⟩ = some (.int .i64 n0) ∧ w'.cell? ⟨g, 1, none⟩ = some (.int .i64 z0)) (first | go_keep | (go_split_ands; refine ⟨?_, ?_⟩ <;> (rw [hb0.cell (World.block_lt_of_cell? _ _ (by assumption))]; assumption)))
  (first | (go_at_call 69; refine (endian_Both.calls _ _ _ _ _ HB0.out).mono ?_; rintro ev wa0 ⟨rfl, hb0⟩))
 have ha0 := h.drew.stays hb0
 have HGa := Lib.hid ((hb0.block g (Array.getElem?_eq_some_iff.1 HG.out).1).trans HG.out)
 have hc0 := ha0
 go_wp2_with fail
 refine (enc_ws hc0 s0 (by omega)).mono ?_
 rintro ev wb0 ⟨rfl, hd0, hk0⟩
 have HGb : Hid _ := Lib.hid (hk0 g _ HGa.out (by simp [gb]) (by intro c fz; simp))
 have d2 : wb0.cell? ⟨g, 2, none⟩ = some (.int .i64 n1) := by simp [World.cell?, HGb.out]
 have d3 : wb0.cell? ⟨g, 3, none⟩ = some (.int .i64 z1) := by simp [World.cell?, HGb.out]
 clear c0 c1 c2 c3
 clear hk0 hb0
 go_wp2
 rw [rounds_succ]
 go_wp2
 go_region_held3 (fun w' => w'.cell? ⟨g, 2, none⟩ = some (.int .i64 n1) ∧ w'.cell? ⟨g, 3, none⟩ = some (.int .i64 z1)) (first | go_keep | (go_split_ands; refine ⟨?_, ?_⟩ <;> (rw [hb1.cell (World.block_lt_of_cell? _ _ (by assumption))]; assumption)))
  (first | (go_at_call 69; refine (endian_Both.calls _ _ _ _ _ HB1.out).mono ?_; rintro ev wa1 ⟨rfl, hb1⟩))
 have ha1 := hd0.drew.stays hb1
 have cW1 := ha1.cellW
 have fW1 := ha1.frozenW
 have hc1 := ha1.set e1
 go_wp2_with fail
 refine (enc_ws hc1 s1 (by have hq : (l ++ s0.data.toList).length = l.length + s0.size := List.length_append ; omega)).mono ?_
 rintro ev wb1 ⟨rfl, hd1, hk1⟩
 clear hk1 hb1 cW1 fW1
 go_wp2
 rw [rounds_succ]
 go_wp2
 go_end0
 exact ⟨rfl, hd1⟩

set_option maxRecDepth 100000 in
set_option maxHeartbeats 8000000 in
theorem enc1_fourez {R W b : Nat} {cs : Array Value} {w0 w : World} {e : Int} {l : List UInt8} (h : Enc R W b cs w0 w e l) (g : Nat) (n0 z0 n1 z1 e0 : Int) (s0 s1 : ByteArray)
  (hg : w.heap[g]? = some (.cells #[.int .i64 n0, .int .i64 z0, .int .i64 n1, .int .i64 z1] 3 (0, 0))) (gb : g ≠ b) (gW : g ≠ W) (hB0 : endian_Both.f n0 z0 = some (s0, e0)) (hs0 : s0.size ≤ 1000) (hB1 : endian_Both.f n1 z1 = some (s1, 0)) (hs1 : s1.size ≤ 1000) (hn0 : (e0 != 0) = true) (hl : l.length ≤ 1000000) :
  Calls Tryz.prog 68 #[.slice (some ⟨g, 0, none⟩) 4 4, .pointer (some ⟨W, 0, none⟩), .pointer (some ⟨b, 0, none⟩)] w fun ev w' => ev = .returned (.tuple #[]) ∧ Enc R W b cs w0 w' e0 ((l ++ s0.data.toList) ++ s1.data.toList) := by
 have c0 : w.cell? ⟨g, 0, none⟩ = some (.int .i64 n0) := by simp [World.cell?, hg]
 have c1 : w.cell? ⟨g, 1, none⟩ = some (.int .i64 z0) := by simp [World.cell?, hg]
 have c2 : w.cell? ⟨g, 2, none⟩ = some (.int .i64 n1) := by simp [World.cell?, hg]
 have c3 : w.cell? ⟨g, 3, none⟩ = some (.int .i64 z1) := by simp [World.cell?, hg]
 have v1 : IntKind.i64.wrap 1 = 1 := by decide
 have v2 : IntKind.i64.wrap 2 = 2 := by decide
 have v3 : IntKind.i64.wrap 3 = 3 := by decide
 have v4 : IntKind.i64.wrap 4 = 4 := by decide
 have v5 : IntKind.i64.wrap 5 = 5 := by decide
 have HG := Lib.hid hg
 have HB0 := Lib.hid hB0
 have HB1 := Lib.hid hB1
 clear hg hB0 hB1
 go_enter Tryz.func68, Tryz.ntmps68
 go_wp2
 refine wp_loop_rounds 3 ?_
 rw [rounds_succ]
 go_wp2
 go_region_held3 (fun w' => w'.cell? ⟨g, 0, none⟩ = some (.int .i64 n0) ∧ w'.cell? ⟨g, 1, none⟩ = some (.int .i64 z0)) (first | go_keep | (go_split_ands; refine ⟨?_, ?_⟩ <;> (rw [hb0.cell (World.block_lt_of_cell? _ _ (by assumption))]; assumption)))
  (first | (go_at_call 69; refine (endian_Both.calls _ _ _ _ _ HB0.out).mono ?_; rintro ev wa0 ⟨rfl, hb0⟩))
 have ha0 := h.drew.stays hb0
 have HGa := Lib.hid ((hb0.block g (Array.getElem?_eq_some_iff.1 HG.out).1).trans HG.out)
 have cW0 := ha0.cellW
 have fW0 := ha0.frozenW
 have hc0 := ha0.set e0
 go_wp2_with fail
 refine (enc_ws hc0 s0 (by omega)).mono ?_
 rintro ev wb0 ⟨rfl, hd0, hk0⟩
 have HGb : Hid _ := Lib.hid (hk0 g _ (blk_other HGa.out gW 0 (.int .i64 e0)) (by simp [gb]) (by intro c fz; simp))
 have d2 : wb0.cell? ⟨g, 2, none⟩ = some (.int .i64 n1) := by simp [World.cell?, HGb.out]
 have d3 : wb0.cell? ⟨g, 3, none⟩ = some (.int .i64 z1) := by simp [World.cell?, HGb.out]
 clear c0 c1 c2 c3
 clear hk0 hb0 cW0 fW0
 go_wp2
 rw [rounds_succ]
 go_wp2
 go_region_held3 (fun w' => w'.cell? ⟨g, 2, none⟩ = some (.int .i64 n1) ∧ w'.cell? ⟨g, 3, none⟩ = some (.int .i64 z1)) (first | go_keep | (go_split_ands; refine ⟨?_, ?_⟩ <;> (rw [hb1.cell (World.block_lt_of_cell? _ _ (by assumption))]; assumption)))
  (first | (go_at_call 69; refine (endian_Both.calls _ _ _ _ _ HB1.out).mono ?_; rintro ev wa1 ⟨rfl, hb1⟩))
 have ha1 := hd0.drew.stays hb1
 have hc1 := ha1
 go_wp2_with fail
 refine (enc_ws hc1 s1 (by have hq : (l ++ s0.data.toList).length = l.length + s0.size := List.length_append ; omega)).mono ?_
 rintro ev wb1 ⟨rfl, hd1, hk1⟩
 clear hk1 hb1
 go_wp2
 rw [rounds_succ]
 go_wp2
 go_end0
 exact ⟨rfl, hd1⟩

set_option maxRecDepth 100000 in
set_option maxHeartbeats 8000000 in
theorem enc1_fouree {R W b : Nat} {cs : Array Value} {w0 w : World} {e : Int} {l : List UInt8} (h : Enc R W b cs w0 w e l) (g : Nat) (n0 z0 n1 z1 e0 e1 : Int) (s0 s1 : ByteArray)
  (hg : w.heap[g]? = some (.cells #[.int .i64 n0, .int .i64 z0, .int .i64 n1, .int .i64 z1] 3 (0, 0))) (gb : g ≠ b) (gW : g ≠ W) (hB0 : endian_Both.f n0 z0 = some (s0, e0)) (hs0 : s0.size ≤ 1000) (hB1 : endian_Both.f n1 z1 = some (s1, e1)) (hs1 : s1.size ≤ 1000) (hn0 : (e0 != 0) = true) (hn1 : (e1 != 0) = true) (hl : l.length ≤ 1000000) :
  Calls Tryz.prog 68 #[.slice (some ⟨g, 0, none⟩) 4 4, .pointer (some ⟨W, 0, none⟩), .pointer (some ⟨b, 0, none⟩)] w fun ev w' => ev = .returned (.tuple #[]) ∧ Enc R W b cs w0 w' e1 ((l ++ s0.data.toList) ++ s1.data.toList) := by
 have c0 : w.cell? ⟨g, 0, none⟩ = some (.int .i64 n0) := by simp [World.cell?, hg]
 have c1 : w.cell? ⟨g, 1, none⟩ = some (.int .i64 z0) := by simp [World.cell?, hg]
 have c2 : w.cell? ⟨g, 2, none⟩ = some (.int .i64 n1) := by simp [World.cell?, hg]
 have c3 : w.cell? ⟨g, 3, none⟩ = some (.int .i64 z1) := by simp [World.cell?, hg]
 have v1 : IntKind.i64.wrap 1 = 1 := by decide
 have v2 : IntKind.i64.wrap 2 = 2 := by decide
 have v3 : IntKind.i64.wrap 3 = 3 := by decide
 have v4 : IntKind.i64.wrap 4 = 4 := by decide
 have v5 : IntKind.i64.wrap 5 = 5 := by decide
 have HG := Lib.hid hg
 have HB0 := Lib.hid hB0
 have HB1 := Lib.hid hB1
 clear hg hB0 hB1
 go_enter Tryz.func68, Tryz.ntmps68
 go_wp2
 refine wp_loop_rounds 3 ?_
 rw [rounds_succ]
 go_wp2
 go_region_held3 (fun w' => w'.cell? ⟨g, 0, none⟩ = some (.int .i64 n0) ∧ w'.cell? ⟨g, 1, none⟩ = some (.int .i64 z0)) (first | go_keep | (go_split_ands; refine ⟨?_, ?_⟩ <;> (rw [hb0.cell (World.block_lt_of_cell? _ _ (by assumption))]; assumption)))
  (first | (go_at_call 69; refine (endian_Both.calls _ _ _ _ _ HB0.out).mono ?_; rintro ev wa0 ⟨rfl, hb0⟩))
 have ha0 := h.drew.stays hb0
 have HGa := Lib.hid ((hb0.block g (Array.getElem?_eq_some_iff.1 HG.out).1).trans HG.out)
 have cW0 := ha0.cellW
 have fW0 := ha0.frozenW
 have hc0 := ha0.set e0
 go_wp2_with fail
 refine (enc_ws hc0 s0 (by omega)).mono ?_
 rintro ev wb0 ⟨rfl, hd0, hk0⟩
 have HGb : Hid _ := Lib.hid (hk0 g _ (blk_other HGa.out gW 0 (.int .i64 e0)) (by simp [gb]) (by intro c fz; simp))
 have d2 : wb0.cell? ⟨g, 2, none⟩ = some (.int .i64 n1) := by simp [World.cell?, HGb.out]
 have d3 : wb0.cell? ⟨g, 3, none⟩ = some (.int .i64 z1) := by simp [World.cell?, HGb.out]
 clear c0 c1 c2 c3
 clear hk0 hb0 cW0 fW0
 go_wp2
 rw [rounds_succ]
 go_wp2
 go_region_held3 (fun w' => w'.cell? ⟨g, 2, none⟩ = some (.int .i64 n1) ∧ w'.cell? ⟨g, 3, none⟩ = some (.int .i64 z1)) (first | go_keep | (go_split_ands; refine ⟨?_, ?_⟩ <;> (rw [hb1.cell (World.block_lt_of_cell? _ _ (by assumption))]; assumption)))
  (first | (go_at_call 69; refine (endian_Both.calls _ _ _ _ _ HB1.out).mono ?_; rintro ev wa1 ⟨rfl, hb1⟩))
 have ha1 := hd0.drew.stays hb1
 have cW1 := ha1.cellW
 have fW1 := ha1.frozenW
 have hc1 := ha1.set e1
 go_wp2_with fail
 refine (enc_ws hc1 s1 (by have hq : (l ++ s0.data.toList).length = l.length + s0.size := List.length_append ; omega)).mono ?_
 rintro ev wb1 ⟨rfl, hd1, hk1⟩
 clear hk1 hb1 cW1 fW1
 go_wp2
 rw [rounds_succ]
 go_wp2
 go_end0
 exact ⟨rfl, hd1⟩

theorem enc1_2 {R W b : Nat} {cs : Array Value} {w0 w : World} {e : Int} {l : List UInt8} (h : Enc R W b cs w0 w e l) (g : Nat) (n z e1 : Int) (s : ByteArray)
  (hg : w.heap[g]? = some (.cells #[.int .i64 n, .int .i64 z] 3 (0, 0))) (gb : g ≠ b) (gW : g ≠ W) (hB : endian_Both.f n z = some (s, e1)) (hs : s.size ≤ 1000) (hl : l.length ≤ 1000000) :
  Calls Tryz.prog 68 #[.slice (some ⟨g, 0, none⟩) 2 2, .pointer (some ⟨W, 0, none⟩), .pointer (some ⟨b, 0, none⟩)] w fun ev w' => ev = .returned (.tuple #[]) ∧ Enc R W b cs w0 w' (ee e e1) (l ++ s.data.toList) := by
 unfold ee
 by_cases h1 : e1 = 0
 ·subst h1
  rw [if_pos rfl]
  exact enc1_twoz h g n z s hg gb gW hB hs hl
 ·rw [if_neg h1]
  exact enc1_twoe h g n z e1 s hg gb gW hB hs (by simpa using h1) hl
theorem enc1_4 {R W b : Nat} {cs : Array Value} {w0 w : World} {e : Int} {l : List UInt8} (h : Enc R W b cs w0 w e l) (g : Nat) (n0 z0 n1 z1 e0 e1 : Int) (s0 s1 : ByteArray)
  (hg : w.heap[g]? = some (.cells #[.int .i64 n0, .int .i64 z0, .int .i64 n1, .int .i64 z1] 3 (0, 0))) (gb : g ≠ b) (gW : g ≠ W)
  (hB0 : endian_Both.f n0 z0 = some (s0, e0)) (hs0 : s0.size ≤ 1000) (hB1 : endian_Both.f n1 z1 = some (s1, e1)) (hs1 : s1.size ≤ 1000) (hl : l.length ≤ 1000000) :
  Calls Tryz.prog 68 #[.slice (some ⟨g, 0, none⟩) 4 4, .pointer (some ⟨W, 0, none⟩), .pointer (some ⟨b, 0, none⟩)] w fun ev w' => ev = .returned (.tuple #[]) ∧ Enc R W b cs w0 w' (ee (ee e e0) e1) ((l ++ s0.data.toList) ++ s1.data.toList) := by
 unfold ee
 by_cases h0 : e0 = 0
 ·subst h0
  rw [if_pos rfl]
  by_cases h1 : e1 = 0
  ·subst h1
   rw [if_pos rfl]
   exact enc1_fourzz h g n0 z0 n1 z1 s0 s1 hg gb gW hB0 hs0 hB1 hs1 hl
  ·rw [if_neg h1]
   exact enc1_fourze h g n0 z0 n1 z1 e1 s0 s1 hg gb gW hB0 hs0 hB1 hs1 (by simpa using h1) hl
 ·rw [if_neg h0]
  by_cases h1 : e1 = 0
  ·subst h1
   rw [if_pos rfl]
   exact enc1_fourez h g n0 z0 n1 z1 e0 s0 s1 hg gb gW hB0 hs0 hB1 hs1 (by simpa using h0) hl
  ·rw [if_neg h1]
   exact enc1_fouree h g n0 z0 n1 z1 e0 e1 s0 s1 hg gb gW hB0 hs0 hB1 hs1 (by simpa using h0) (by simpa using h1) hl

end Go.Proofs.YthblghfobnhoeaaGreat.H
namespace Go.Proofs.YthblghfobnhoeaaGreat.H
open Go.RowKit Go.Proofs.YthblghfobnhoeaaGreatW.PrintWords
set_option linter.unusedVariables false
set_option linter.unusedSimpArgs false

/-! strings.IndexAny(s, ".;") at any string. -/
def dotSemi : ByteArray := ⟨#[46, 59]⟩

set_option maxRecDepth 100000 in
set_option maxHeartbeats 4000000 in
theorem idx_hi2 (r : Int) (w : World) (E : ByteArray) (v : Int) (he : Utf8.encode r = E) (hz : E.size = 2) (hv1 : ∀ h : 1 < E.size, ((E[1]'h).toNat : Int) = v) (hb : 128 ≤ v) (c0 : decide (r < 128) = false) (c1 : decide (0 ≤ r) = true) (c2 : (r == 65533) = false) (hv : ∀ w, Calls Tryz.prog 111 #[.int .i32 r] w fun e w' => e = .returned (.bool true) ∧ w' = w) :
    Calls Tryz.prog 85 #[.string dotSemi, .int .i32 r] w fun e w' => e = .returned (.int .i64 (-1)) ∧ ∃ n, w' = w.drewN n := by
  have hs : dotSemi.size = 2 := rfl
  have hne : ((59 : Int) != v) = true := bne_iff_ne.2 (by omega)
  have hcv := fun W => run_convert_int_string (P := Tryz.prog) W 21 9 .i32 r (by rw [Tryz.underlying21]; rfl) Tryz.underlying9
  simp only [he] at hcv
  have hx1 : ∀ h : 1 < dotSemi.size, ((dotSemi[1]'h).toNat : Int) = 59 := fun _ => rfl
  have w2 : IntKind.i64.wrap 2 = 2 := by decide
  have hib : ∀ W, Calls Tryz.prog 110 #[.string ByteArray.empty, .int .u8 v] W fun e w' => e = .returned (.int .i64 (-1)) ∧ w' = W := fun W => (Tryz.strings_IndexByte _ _ _).mono fun e w' h => by obtain ⟨rfl, rfl⟩ := h; exact ⟨rfl, rfl⟩
  go_enter Tryz.func85, Tryz.ntmps85
  go_wp2_with (first | (go_at_call 111; refine (hv _).mono ?_; rintro e w' ⟨rfl, rfl⟩) | fail)
  go_step3
  go_wp2_with fail
  refine wp_loop_rounds 1 ?_
  rw [rounds_succ]
  go_wp2_with fail
  go_step3
  go_wp2_with fail
  go_quiet (fail)
  go_wp2_with fail
  go_quiet ((go_at_call 110; exact (hib _).mono fun e w'' h => ⟨h.1, _, h.2⟩))
  go_wp2_with fail
  dsimp only [Exit.noGoto]
  go_wp2_with fail
  try dsimp only [Exit.noGoto]
  try go_wp2_with fail
  go_ret
  exact ⟨rfl, _, rfl⟩

set_option maxRecDepth 100000 in
set_option maxHeartbeats 4000000 in
theorem idx_hi3 (r : Int) (w : World) (E : ByteArray) (he : Utf8.encode r = E) (hz : E.size = 3) (c0 : decide (r < 128) = false) (c1 : decide (0 ≤ r) = true) (c2 : (r == 65533) = false) (hv : ∀ w, Calls Tryz.prog 111 #[.int .i32 r] w fun e w' => e = .returned (.bool true) ∧ w' = w) :
    Calls Tryz.prog 85 #[.string dotSemi, .int .i32 r] w fun e w' => e = .returned (.int .i64 (-1)) ∧ ∃ n, w' = w.drewN n := by
  have hs : dotSemi.size = 2 := rfl
  have hcv := fun W => run_convert_int_string (P := Tryz.prog) W 21 9 .i32 r (by rw [Tryz.underlying21]; rfl) Tryz.underlying9
  simp only [he] at hcv
  go_enter Tryz.func85, Tryz.ntmps85
  go_wp2_with (first | (go_at_call 111; refine (hv _).mono ?_; rintro e w' ⟨rfl, rfl⟩) | fail)
  go_step3
  go_wp2_with fail
  refine wp_loop_rounds 1 ?_
  rw [rounds_succ]
  go_wp2_with fail
  try dsimp only [Exit.noGoto]
  try go_wp2_with fail
  go_ret
  exact ⟨rfl, 0, rfl⟩

set_option maxRecDepth 100000 in
set_option maxHeartbeats 4000000 in
theorem idx_hi4 (r : Int) (w : World) (E : ByteArray) (he : Utf8.encode r = E) (hz : E.size = 4) (c0 : decide (r < 128) = false) (c1 : decide (0 ≤ r) = true) (c2 : (r == 65533) = false) (hv : ∀ w, Calls Tryz.prog 111 #[.int .i32 r] w fun e w' => e = .returned (.bool true) ∧ w' = w) :
    Calls Tryz.prog 85 #[.string dotSemi, .int .i32 r] w fun e w' => e = .returned (.int .i64 (-1)) ∧ ∃ n, w' = w.drewN n := by
  have hs : dotSemi.size = 2 := rfl
  have hcv := fun W => run_convert_int_string (P := Tryz.prog) W 21 9 .i32 r (by rw [Tryz.underlying21]; rfl) Tryz.underlying9
  simp only [he] at hcv
  go_enter Tryz.func85, Tryz.ntmps85
  go_wp2_with (first | (go_at_call 111; refine (hv _).mono ?_; rintro e w' ⟨rfl, rfl⟩) | fail)
  go_step3
  go_wp2_with fail
  refine wp_loop_rounds 1 ?_
  rw [rounds_succ]
  go_wp2_with fail
  try dsimp only [Exit.noGoto]
  try go_wp2_with fail
  go_ret
  exact ⟨rfl, 0, rfl⟩

set_option maxRecDepth 100000 in
set_option maxHeartbeats 4000000 in
theorem idx_err (w : World) : Calls Tryz.prog 85 #[.string dotSemi, .int .i32 65533] w fun e w' => e = .returned (.int .i64 (-1)) ∧ Below w.heap.size w w' := by
  have hs : dotSemi.size = 2 := rfl
  have n0 := fun ty => run_next_ascii (P := Tryz.prog) w dotSemi 0 ty (by decide) (by decide)
  have n1 := fun ty => run_next_ascii (P := Tryz.prog) w dotSemi 1 ty (by decide) (by decide)
  have n2 := run_next_end (P := Tryz.prog) w dotSemi 2
  go_enter Tryz.func85, Tryz.ntmps85
  go_wp2_with fail
  refine wp_loop_rounds 3 ?_
  rw [rounds_succ]
  go_wp2_with fail
  rw [rounds_succ]
  go_wp2_with fail
  rw [rounds_succ]
  go_wp2_with fail
  go_ret
  exact ⟨rfl, (Below.refl _ _).alloc (Nat.le_refl _) _⟩
end Go.Proofs.YthblghfobnhoeaaGreat.H
namespace Go.Proofs.YthblghfobnhoeaaGreat.H
open Go.RowKit Go.Proofs.YthblghfobnhoeaaGreatW.PrintWords
set_option linter.unusedVariables false
set_option linter.unusedSimpArgs false

/-! A rune that stands in a string, its first byte high: it is a rune, and all its bytes are high. -/
theorem get_k (s : ByteArray) (i : Nat) (h : i < s.size) : s.get! i = s[i]'h := by
  simp [ByteArray.get!, getElem!_pos, h]
  rfl
theorem dec_hi (s : ByteArray) (i : Nat) (h : i < s.size) (hb : 128 ≤ (s[i]'h).toNat) :
    128 ≤ (Utf8.decode s i).1 ∧ Utf8.valid ((Utf8.decode s i).1 : Nat) = true ∧ 1 ≤ (Utf8.decode s i).2 ∧ i + (Utf8.decode s i).2 ≤ s.size ∧ ∀ j, i ≤ j → j < i + (Utf8.decode s i).2 → 128 ≤ (s.get! j).toNat := by
  have hi : (s.get! (i + 0)).toNat = (s[i]'h).toNat := by rw [Nat.add_zero, get_k s i h]
  have hn : ¬ (s.get! (i + 0)).toNat < 128 := by omega
  have b0 : (s.get! (i + 0)).toNat < 256 := (s.get! (i + 0)).toNat_lt
  have hone : 128 ≤ (Utf8.runeError, 1).1 ∧ Utf8.valid ((Utf8.runeError, 1).1 : Nat) = true ∧ 1 ≤ (Utf8.runeError, (1 : Nat)).2 ∧ i + (Utf8.runeError, (1 : Nat)).2 ≤ s.size ∧ ∀ j, i ≤ j → j < i + (Utf8.runeError, (1 : Nat)).2 → 128 ≤ (s.get! j).toNat := by
    refine ⟨by decide, by decide, by decide, ?_, fun j h1 h2 => ?_⟩
    · show i + 1 ≤ s.size
      omega
    · have h2 : j < i + 1 := h2
      have e : j = i := by omega
      rw [e, get_k s i h]
      exact hb
  have cont : ∀ k, (decide (i + k < s.size) && (s.get! (i + k)).toNat / 64 == 2) = true → i + k < s.size ∧ 128 ≤ (s.get! (i + k)).toNat := fun k hk => by
    rw [Bool.and_eq_true, decide_eq_true_eq, beq_iff_eq] at hk
    exact ⟨hk.1, by omega⟩
  unfold Utf8.decode
  simp only []
  rw [if_neg hn]
  split
  · rename_i h2
    rw [Bool.and_eq_true] at h2
    have c1 := cont 1 h2.2
    split
    · rename_i h3
      have m1 := Nat.mod_lt ((s.get! (i + 1)).toNat) (show 64 > 0 by decide)
      refine ⟨h3, ?_, (show 1 ≤ 2 by decide), by show i + 2 ≤ s.size; omega, fun j h1 h4 => ?_⟩
      · unfold Utf8.valid
        rw [Bool.or_eq_true, Bool.and_eq_true, decide_eq_true_eq, decide_eq_true_eq]
        left; omega
      · have h4 : j < i + 2 := h4
        rcases (show j = i ∨ j = i + 1 by omega) with rfl | rfl
        · have := hi; rw [Nat.add_zero] at this; omega
        · exact c1.2
    · exact hone
  · split
    · rename_i h2
      rw [Bool.and_eq_true, Bool.and_eq_true] at h2
      have c1 := cont 1 h2.1.2
      have c2 := cont 2 h2.2
      split
      · rename_i h3
        rw [Bool.and_eq_true, decide_eq_true_eq] at h3
        refine ⟨by show 128 ≤ _; omega, h3.2, (show 1 ≤ 3 by decide), by show i + 3 ≤ s.size; omega, fun j h1 h4 => ?_⟩
        have h4 : j < i + 3 := h4
        rcases (show j = i ∨ j = i + 1 ∨ j = i + 2 by omega) with rfl | rfl | rfl
        · have := hi; rw [Nat.add_zero] at this; omega
        · exact c1.2
        · exact c2.2
      · exact hone
    · split
      · rename_i h2
        rw [Bool.and_eq_true, Bool.and_eq_true, Bool.and_eq_true] at h2
        have c1 := cont 1 h2.1.1.2
        have c2 := cont 2 h2.1.2
        have c3 := cont 3 h2.2
        split
        · rename_i h3
          rw [Bool.and_eq_true, decide_eq_true_eq] at h3
          refine ⟨by show 128 ≤ _; omega, h3.2, (show 1 ≤ 4 by decide), by show i + 4 ≤ s.size; omega, fun j h1 h4 => ?_⟩
          have h4 : j < i + 4 := h4
          rcases (show j = i ∨ j = i + 1 ∨ j = i + 2 ∨ j = i + 3 by omega) with rfl | rfl | rfl | rfl
          · have := hi; rw [Nat.add_zero] at this; omega
          · exact c1.2
          · exact c2.2
          · exact c3.2
        · exact hone
      · exact hone

theorem enc_size (r : Nat) (h : 128 ≤ r) (hv : Utf8.valid (r : Int) = true) :
    Utf8.encode (r : Int) = ⟨#[UInt8.ofNat (0xC0 + r / 64), UInt8.ofNat (0x80 + r % 64)]⟩ ∨ (Utf8.encode (r : Int)).size = 3 ∨ (Utf8.encode (r : Int)).size = 4 := by
  have e : (if Utf8.valid (r : Int) then (r : Int).toNat else Utf8.runeError) = r := by rw [if_pos hv]; exact Int.toNat_natCast r
  unfold Utf8.encode
  simp only [e]
  rw [if_neg (by omega)]
  by_cases h1 : r < 2048
  · rw [if_pos h1]
    exact Or.inl rfl
  · rw [if_neg h1]
    by_cases h2 : r < 65536
    · rw [if_pos h2]; exact Or.inr (Or.inl rfl)
    · rw [if_neg h2]; exact Or.inr (Or.inr rfl)

/-- strings.IndexRune(".;", r) at a rune that is no ASCII. -/
theorem idx_rune (r : Nat) (w : World) (h : 128 ≤ r) (hv : Utf8.valid (r : Int) = true) :
    Calls Tryz.prog 85 #[.string dotSemi, .int .i32 r] w fun e w' => e = .returned (.int .i64 (-1)) ∧ Below w.heap.size w w' := by
  by_cases hr : r = 65533
  · subst hr; exact idx_err w
  · have hvr : Lib.validRune (r : Int) = true := by
      unfold Utf8.valid at hv
      unfold Lib.validRune
      rw [Bool.or_eq_true, Bool.and_eq_true, Bool.and_eq_true, decide_eq_true_eq, decide_eq_true_eq, decide_eq_true_eq, decide_eq_true_eq] at hv
      rw [decide_eq_true_eq]
      omega
    have hV : ∀ w, Calls Tryz.prog 111 #[.int .i32 r] w fun e w' => e = .returned (.bool true) ∧ w' = w := fun w => (Tryz.utf8_ValidRune r w).mono fun e w' hh => ⟨by rw [← hvr]; exact hh.1, hh.2⟩
    have c0 : decide ((r : Int) < 128) = false := decide_eq_false (by omega)
    have c1 : decide (0 ≤ (r : Int)) = true := decide_eq_true (by omega)
    have c2 : ((r : Int) == 65533) = false := beq_eq_false_iff_ne.2 (by omega)
    rcases enc_size r h hv with he | hz | hz
    · have hb : (((UInt8.ofNat (0x80 + r % 64)).toNat : Nat) : Int) = 128 + (r : Int) % 64 := by rw [UInt8.toNat_ofNat']; omega
      exact (idx_hi2 r w _ (128 + (r : Int) % 64) he rfl (fun _ => hb) (by omega) c0 c1 c2 hV).mono fun e w' ⟨h1, n, h2⟩ => ⟨h1, h2 ▸ pw_below_drewN (Below.refl _ _) n⟩
    · exact (idx_hi3 r w _ rfl hz c0 c1 c2 hV).mono fun e w' ⟨h1, n, h2⟩ => ⟨h1, h2 ▸ pw_below_drewN (Below.refl _ _) n⟩
    · exact (idx_hi4 r w _ rfl hz c0 c1 c2 hV).mono fun e w' ⟨h1, n, h2⟩ => ⟨h1, h2 ▸ pw_below_drewN (Below.refl _ _) n⟩

end Go.Proofs.YthblghfobnhoeaaGreat.H
namespace Go.Proofs.YthblghfobnhoeaaGreat.H
open Go.RowKit Go.Proofs.YthblghfobnhoeaaGreatW.PrintWords
set_option linter.unusedVariables false
set_option linter.unusedSimpArgs false

/-! strings.IndexAny(s, ".;") at any string. -/
theorem noAny_hi {s : ByteArray} {i n : Nat} (h : Lib.NoAny s.data.toList [46, 59] i) (hb : ∀ j, i ≤ j → j < i + n → 128 ≤ (s.get! j).toNat) (hs : i + n ≤ s.size) : Lib.NoAny s.data.toList [46, 59] (i + n) := by
  intro j b hj hx
  by_cases h1 : j < i
  · exact h j b h1 hx
  · have hg := hb j (by omega) hj
    have e := Lib.data_getElem? s j (by omega)
    rw [get_k s j (by omega)] at hg
    rw [e] at hx
    obtain rfl := Option.some.inj hx
    have h46 : (s[j]'(by omega) == 46) = false := beq_eq_false_iff_ne.2 (fun hh => by rw [hh] at hg; exact absurd hg (by decide))
    have h59 : (s[j]'(by omega) == 59) = false := beq_eq_false_iff_ne.2 (fun hh => by rw [hh] at hg; exact absurd hg (by decide))
    simp only [List.contains_cons, List.contains_nil, h46, h59, Bool.or_false]

theorem iterAt_heap (w : World) (k : Nat) (s : ByteArray) (p : Nat) (h : k < w.heap.size) : (w.iterAt k s p).heap[k]? = some (.stringIter s p) := by
  unfold World.iterAt
  rw [Array.getElem?_setIfInBounds_self_of_lt h]
theorem blk_below' {w w1 : World} {g : Nat} {o : Obj} (h : w.heap[g]? = some o) (hb : Below w.heap.size w w1) : w1.heap[g]? = some o := (hb.block g (Array.getElem?_eq_some_iff.1 h).1).trans h
theorem below_iterAt {B : Nat} {w0 w : World} {k : Nat} (s : ByteArray) (p : Nat) (h : Below B w0 w) (hk : B ≤ k) : Below B w0 (w.iterAt k s p) := by
  refine ⟨h.os, h.tape, h.output, by show _ ≤ (w.heap.setIfInBounds k _).size; rw [Array.size_setIfInBounds]; exact h.size, fun j hj => ?_⟩
  show (w.heap.setIfInBounds k _)[j]? = _
  rw [Array.getElem?_setIfInBounds_ne (by omega)]
  exact h.block j hj

set_option maxRecDepth 100000 in
set_option maxHeartbeats 8000000 in
theorem idxAny_short (s : ByteArray) (w : World) (h8 : s.size ≤ 8) :
    Calls Tryz.prog 61 #[.string s, .string dotSemi] w fun e w' => e = .returned (.int .i64 (Lib.indexAny s.data.toList [46, 59])) ∧ Below w.heap.size w w' := by
  have hc : dotSemi.size = 2 := rfl
  have hemp : dotSemi.toList.isEmpty = false := by rw [Lib.toList_data]; rfl
  have h8z : decide ((8 : Int) < (s.size : Int)) = false := decide_eq_false (by omega)
  go_enter Tryz.func61, Tryz.ntmps61
  go_wp2_with (go_at_call 86; refine (Tryz.strings_shouldUseASCIISet _ _).mono ?_; rintro e w' ⟨rfl, hw⟩; rw [hw, h8z])
  go_loopg [9, 10] s.size (fun g _ _ wx => ∃ i : Nat, i + g = s.size ∧ wx.heap[w.heap.size]? = some (.stringIter s i) ∧ Below w.heap.size w wx ∧ Lib.NoAny s.data.toList [46, 59] i)
  case atStart => exact ⟨0, by omega, by simp [World.iter_heap], (Below.refl _ _).alloc (Nat.le_refl _) _, Lib.NoAny.zero _ _⟩
  case round =>
    obtain ⟨i, hig, hk, hbel, hno⟩ := hrel
    have HN := Lib.hid hno
    have HB := Lib.hid hbel
    have hlt : w.heap.size < wr.heap.size := (Array.getElem?_eq_some_iff.1 hk).1
    clear hno hbel
    cases gk with
    | zero =>
      obtain rfl : i = s.size := by omega
      have hnx := fun ty => Lib.run_next_end_at (P := Tryz.prog) wr w.heap.size s s.size ty hk (Nat.lt_irrefl _)
      go_wp2
      go_ret
      exact ⟨by rw [Lib.indexAny_none (by rw [← Lib.size_eq]; exact HN.out)]; rfl, HB.out⟩
    | succ g =>
      have hi : i < s.size := by omega
      by_cases h128 : (s[i]'hi).toNat < 128
      · obtain ⟨x, hx⟩ : ∃ x : UInt8, s[i]'hi = x := ⟨_, rfl⟩
        have hxl : s.data.toList[i]? = some x := by rw [← hx]; exact Lib.data_getElem? s i hi
        have hx128 : x.toNat < 128 := by rw [← hx]; exact h128
        have hnx := fun ty => Lib.run_next_ascii_at (P := Tryz.prog) wr w.heap.size s i ty hk hi h128
        rw [hx] at hnx
        have HK := Lib.hid (iterAt_heap wr w.heap.size s (i + 1) hlt)
        have HB2 := Lib.hid (below_iterAt s (i + 1) HB.out (Nat.le_refl w.heap.size))
        have Hx := Lib.hid hxl
        clear hxl hx hk HB
        generalize wr.iterAt w.heap.size s (i + 1) = wn at hnx HK HB2
        have hcon := Lib.contains_iff_indexByte [46, 59] x
        have hback : ((x.toNat : Int)).toNat.toUInt8 = x := by simp
        have hdl : dotSemi.data.toList = [46, 59] := rfl
        cases hin : ([46, 59] : List UInt8).contains x
        · rw [hin] at hcon
          have hlt2 : ¬ ((0 : Int) ≤ Lib.indexByte [46, 59] x) := of_decide_eq_false hcon.symm
          have hltb : decide ((0 : Int) ≤ Lib.indexByte [46, 59] x) = false := hcon.symm
          clear hcon
          go_wp2_with (go_at_call 85; refine (Tryz.strings_IndexRune_ascii _ _ _ (by omega) (by omega)).mono ?_; rintro e w2 ⟨rfl, hw2⟩; rw [hw2, hback, hdl])
          go_roundg g
          case measure => omega
          case rel => exact ⟨i + 1, by omega, HK.out, HB2.out, HN.out.succ Hx.out hin⟩
        · rw [hin] at hcon
          have hge : (0 : Int) ≤ Lib.indexByte [46, 59] x := of_decide_eq_true hcon.symm
          have hgeb : decide ((0 : Int) ≤ Lib.indexByte [46, 59] x) = true := hcon.symm
          clear hcon
          go_wp2_with (go_at_call 85; refine (Tryz.strings_IndexRune_ascii _ _ _ (by omega) (by omega)).mono ?_; rintro e w2 ⟨rfl, hw2⟩; rw [hw2, hback, hdl])
          go_ret
          exact ⟨by rw [Lib.indexAny_hit HN.out Hx.out hin]; rfl, HB2.out⟩
      · obtain ⟨d1, d2, d3, d4, d5⟩ := dec_hi s i hi (by omega)
        have hnx := fun ty => Lib.run_next_any_at (P := Tryz.prog) wr w.heap.size s i ty hk hi
        have HK := Lib.hid (iterAt_heap wr w.heap.size s (i + (Utf8.decode s i).2) hlt)
        have HB2 := Lib.hid (below_iterAt s (i + (Utf8.decode s i).2) HB.out (Nat.le_refl w.heap.size))
        have HN2 := Lib.hid (noAny_hi HN.out d5 d4)
        clear hk HB
        generalize wr.iterAt w.heap.size s (i + (Utf8.decode s i).2) = wn at hnx HK HB2
        generalize (Utf8.decode s i).1 = r at hnx d1 d2
        generalize (Utf8.decode s i).2 = n at hnx d3 d4 d5 HK HN2
        have HR := Lib.hid (idx_rune r wn d1 d2)
        clear d1 d2 d5
        go_wp2_with (go_at_call 85; refine (HR.out).mono ?_; rintro e w2 ⟨rfl, hw2⟩)
        go_roundg (s.size - (i + n))
        case measure => omega
        case rel => exact ⟨i + n, by omega, blk_below' HK.out hw2, below_step HB2.out hw2, HN2.out⟩
end Go.Proofs.YthblghfobnhoeaaGreat.H
namespace Go.Proofs.YthblghfobnhoeaaGreat.H
open Go.RowKit Go.Proofs.YthblghfobnhoeaaGreatW.PrintWords
set_option linter.unusedVariables false
set_option linter.unusedSimpArgs false

/-! The strings functions that directory.Compare calls, as the print takes them. -/
set_option maxRecDepth 100000 in
theorem idxAny (s : ByteArray) (w : World) (hs : s.size < 4294967281) :
    Calls Tryz.prog 61 #[.string s, .string dotSemi] w fun e w' => e = .returned (.int .i64 (Lib.indexAny s.data.toList [46, 59])) ∧ Below w.heap.size w w' := by
  by_cases h8 : s.size ≤ 8
  · exact idxAny_short s w h8
  · have h116 : (Tryz.prog.info? 112).map (fun i => (i.zero, i.size)) = some (some (.agg (Array.replicate 256 (.bool false))), 256) := by kernel_rfl
    refine (Tryz.strings_IndexAny_long (Go.zero_of_info h116).1 s dotSemi w (by decide) (by omega) hs (by decide) (fun j b hb => ?_)).mono fun e w' ⟨h1, h2⟩ => ⟨h1, ?_⟩
    · have hd : dotSemi.data.toList = [46, 59] := rfl
      rw [hd] at hb
      match j, hb with
      | 0, hb => obtain rfl := Option.some.inj hb; decide
      | 1, hb => obtain rfl := Option.some.inj hb; decide
    · rw [h2]
      exact ((Below.refl _ _).alloc (Nat.le_refl _) _).alloc (by simp) _

/-- strings.IndexAny at ".;". -/
def strings_IndexAny.f (a0 a1 : ByteArray) : Option Int := if a1 = dotSemi ∧ a0.size < 4294967281 then some (Lib.indexAny a0.data.toList [46, 59]) else none
theorem strings_IndexAny.calls (a0 : ByteArray) (a1 : ByteArray) (r : Int) (w : World) (h : strings_IndexAny.f a0 a1 = some r) :
    Calls Tryz.prog 61 #[.string a0, .string a1] w fun e w' => e = .returned (.int .i64 r) ∧ Below w.heap.size w w' := by
  unfold strings_IndexAny.f at h
  by_cases hc : a1 = dotSemi ∧ a0.size < 4294967281
  · rw [if_pos hc] at h
    obtain rfl := Option.some.inj h
    obtain ⟨rfl, hs⟩ := hc
    exact idxAny a0 w hs
  · rw [if_neg hc] at h
    cases h

/-- internal/stringslite.Index at one byte. -/
def stringslite_Index.f (a0 a1 : ByteArray) : Option Int := if a1.size = 1 then some (Lib.indexByte a0.data.toList (a1.get! 0)) else none
theorem stringslite_Index.calls (a0 : ByteArray) (a1 : ByteArray) (r : Int) (w : World) (h : stringslite_Index.f a0 a1 = some r) :
    Calls Tryz.prog 114 #[.string a0, .string a1] w fun e w' => e = .returned (.int .i64 r) ∧ Drawn0 w w' := by
  unfold stringslite_Index.f at h
  by_cases hc : a1.size = 1
  · rw [if_pos hc] at h
    obtain rfl := Option.some.inj h
    have ha : a1 = ⟨#[a1.get! 0]⟩ := by
      apply ByteArray.ext
      apply Array.ext
      · exact hc
      · intro i h1 h2
        have : i = 0 := by have : i < 1 := h2; omega
        subst this
        exact (get_k a1 0 (by omega)).symm
    have := Tryz.stringslite_Index_one a0 (a1.get! 0) w
    rw [← ha] at this
    exact this.mono fun e w' ⟨h1, h2⟩ => ⟨h1, h2 ▸ Drawn0.refl w⟩
  · rw [if_neg hc] at h
    cases h

/-- strings.Compare. -/
def strings_Compare.f (a0 a1 : ByteArray) : Option Int := some (Lib.compareBytes a0.data.toList a1.data.toList)
theorem strings_Compare.calls (a0 : ByteArray) (a1 : ByteArray) (r : Int) (w : World) (h : strings_Compare.f a0 a1 = some r) :
    Calls Tryz.prog 37 #[.string a0, .string a1] w fun e w' => e = .returned (.int .i64 r) ∧ Drawn0 w w' := by
  obtain rfl := Option.some.inj h
  exact (Tryz.strings_Compare a0 a1 w).mono fun e w' ⟨h1, h2⟩ => ⟨h1, h2 ▸ Drawn0.refl w⟩

/-- strings.Repeat of short strings. -/
def strings_Repeat.f (a0 : ByteArray) (a1 : Int) : Option ByteArray := if 0 ≤ a1 ∧ a1 ≤ 1000000 ∧ a0.size ≤ 1000000 then some ⟨(Lib.repeatL a0.data.toList a1.toNat).toArray⟩ else none
theorem strings_Repeat.calls (a0 : ByteArray) (a1 : Int) (r : ByteArray) (w : World) (h : strings_Repeat.f a0 a1 = some r) :
    Calls Tryz.prog 28 #[.string a0, .int .i64 a1] w fun e w' => e = .returned (.string r) ∧ Below w.heap.size w w' := by
  unfold strings_Repeat.f at h
  by_cases hc : 0 ≤ a1 ∧ a1 ≤ 1000000 ∧ a0.size ≤ 1000000
  · rw [if_pos hc] at h
    obtain rfl := Option.some.inj h
    obtain ⟨h0, h1, h2⟩ := hc
    obtain ⟨c, rfl⟩ := Int.eq_ofNat_of_zero_le h0
    have hm : a0.size * c ≤ 1000000 * 1000000 := Nat.mul_le_mul h2 (by omega)
    exact Tryz.strings_Repeat a0 c w (by omega) (by omega)
  · rw [if_neg hc] at h
    cases h

end Go.Proofs.YthblghfobnhoeaaGreat.H
