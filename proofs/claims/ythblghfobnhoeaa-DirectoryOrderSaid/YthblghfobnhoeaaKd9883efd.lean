-- Written by a program of this session's, hprint.py, out of the translation. Not trusted: Lean checks it.
import Derived.Test.YthblghfobnhoeaaK5002658f
namespace Go.Proofs.Ythblghfobnhoeaa.A
open Go.RowKit Go.Proofs.Ythblghfobnhoeaa.H Go.Proofs.YthblghfobnhoeaaW.PrintWords Go.Proofs.YthblghfobnhoeaaW.PrintLast Go.Proofs.YthblghfobnhoeaaW.PrintMore
attribute [local go_sem] max2_int min2_int max_two min_two max_three min_three max_four min_four   -- for this text's walks alone
set_option linter.unusedVariables false
set_option linter.unusedSimpArgs false

/-! ### datetime_Split: function 66 -/
mutual
def datetime_Split.j0 : Nat → Int → Int → Bool → Option (Int × Int × Int × Int × Int × Int × Int)
 | 0, _, _, _ => none
 | k + 1, x0, x1, x17 => if x17 = true then (some (0, 0, 0, 0, 0, 0, 2)) else (datetime_Split.l0 k (wrap64 (Int.tdiv (wrap64 (x0 + (wrap64 (60 * x1)))) 86400)) 1970 1 0 (wrap64 (Int.tdiv (Int.tmod (wrap64 (x0 + (wrap64 (60 * x1)))) 86400) 3600)) (Int.tmod (wrap64 (Int.tdiv (Int.tmod (wrap64 (x0 + (wrap64 (60 * x1)))) 86400) 60)) 60) (Int.tmod (wrap64 (x0 + (wrap64 (60 * x1)))) 60))
def datetime_Split.l0 : Nat → Int → Int → Int → Int → Int → Int → Int → Option (Int × Int × Int × Int × Int × Int × Int)
 | 0, _, _, _, _, _, _, _ => none
 | k + 1, x7, x163000, x163001, x163002, x163003, x163004, x163005 => (datetime_yearDays.f x163000).bind fun t163 => (if x7 ≥ t163 then ((datetime_yearDays.f x163000).bind fun t164 => (datetime_Split.l0 k (wrap64 (x7 - t164)) (wrap64 (x163000 + 1)) x163001 x163002 x163003 x163004 x163005)) else (datetime_Split.l1 k x7 x163000 x163001 x163002 x163003 x163004 x163005))
def datetime_Split.l1 : Nat → Int → Int → Int → Int → Int → Int → Int → Option (Int × Int × Int × Int × Int × Int × Int)
 | 0, _, _, _, _, _, _, _ => none
 | k + 1, x7, x163000, x163001, x163002, x163003, x163004, x163005 => (datetime_monthDays.f x163000 x163001).bind fun t165 => (if x7 ≥ t165 then ((datetime_monthDays.f x163000 x163001).bind fun t166 => (datetime_Split.l1 k (wrap64 (x7 - t166)) x163000 (wrap64 (x163001 + 1)) x163002 x163003 x163004 x163005)) else (some (x163000, x163001, wrap64 (x7 + 1), x163003, x163004, x163005, 0)))
end
def datetime_Split.f (k : Nat) (a0 : Int) (a1 : Int) : Option (Int × Int × Int × Int × Int × Int × Int) := (datetime_isTime.f a0).bind fun t160 => (if t160 = true then ((datetime_isZone.f a1).bind fun t161 => (datetime_Split.j0 k a0 a1 (!t161))) else (datetime_Split.j0 k a0 a1 true))
theorem datetime_Split.mono_l : ∀ k, (∀ y0 y1 y2, LeO (datetime_Split.j0 k y0 y1 y2) (datetime_Split.j0 (k + 1) y0 y1 y2)) ∧ (∀ y0 y1 y2 y3 y4 y5 y6, LeO (datetime_Split.l0 k y0 y1 y2 y3 y4 y5 y6) (datetime_Split.l0 (k + 1) y0 y1 y2 y3 y4 y5 y6)) ∧ (∀ y0 y1 y2 y3 y4 y5 y6, LeO (datetime_Split.l1 k y0 y1 y2 y3 y4 y5 y6) (datetime_Split.l1 (k + 1) y0 y1 y2 y3 y4 y5 y6))
 | 0 => ⟨fun _ _ _ r h => by simp [datetime_Split.j0] at h, fun _ _ _ _ _ _ _ r h => by simp [datetime_Split.l0] at h, fun _ _ _ _ _ _ _ r h => by simp [datetime_Split.l1] at h⟩
 | k + 1 => by
  obtain ⟨ih0, ih1, ih2⟩ := datetime_Split.mono_l k
  refine ⟨?_, ?_, ?_⟩
  ·intro y0 y1 y2
   unfold datetime_Split.j0
   repeat' first
   | (with_reducible exact ih0 _ _ _)
   | (with_reducible exact ih1 _ _ _ _ _ _ _)
   | (with_reducible exact ih2 _ _ _ _ _ _ _)
   | (with_reducible exact LeO.refl _)
   | (with_reducible exact LeO.none _)
   | (with_reducible refine LeO.ite ?_ ?_)
   | (with_reducible refine LeO.bind ?_ (fun _ => ?_))
   | exact ih0 _ _ _
   | exact ih1 _ _ _ _ _ _ _
   | exact ih2 _ _ _ _ _ _ _
   | exact LeO.none _
   | refine LeO.ite ?_ ?_
   | refine LeO.bind ?_ (fun _ => ?_)
  ·intro y0 y1 y2 y3 y4 y5 y6
   unfold datetime_Split.l0
   repeat' first
   | (with_reducible exact ih0 _ _ _)
   | (with_reducible exact ih1 _ _ _ _ _ _ _)
   | (with_reducible exact ih2 _ _ _ _ _ _ _)
   | (with_reducible exact LeO.refl _)
   | (with_reducible exact LeO.none _)
   | (with_reducible refine LeO.ite ?_ ?_)
   | (with_reducible refine LeO.bind ?_ (fun _ => ?_))
   | exact ih0 _ _ _
   | exact ih1 _ _ _ _ _ _ _
   | exact ih2 _ _ _ _ _ _ _
   | exact LeO.none _
   | refine LeO.ite ?_ ?_
   | refine LeO.bind ?_ (fun _ => ?_)
  ·intro y0 y1 y2 y3 y4 y5 y6
   unfold datetime_Split.l1
   repeat' first
   | (with_reducible exact ih0 _ _ _)
   | (with_reducible exact ih1 _ _ _ _ _ _ _)
   | (with_reducible exact ih2 _ _ _ _ _ _ _)
   | (with_reducible exact LeO.refl _)
   | (with_reducible exact LeO.none _)
   | (with_reducible refine LeO.ite ?_ ?_)
   | (with_reducible refine LeO.bind ?_ (fun _ => ?_))
   | exact ih0 _ _ _
   | exact ih1 _ _ _ _ _ _ _
   | exact ih2 _ _ _ _ _ _ _
   | exact LeO.none _
   | refine LeO.ite ?_ ?_
   | refine LeO.bind ?_ (fun _ => ?_)
theorem datetime_Split.mono : ∀ a0 a1 k, LeO (datetime_Split.f k a0 a1) (datetime_Split.f (k + 1) a0 a1) := by
 intro a0 a1 k
 obtain ⟨ih0, ih1, ih2⟩ := datetime_Split.mono_l k
 unfold datetime_Split.f
 repeat' first
   | (with_reducible exact ih0 _ _ _)
   | (with_reducible exact ih1 _ _ _ _ _ _ _)
   | (with_reducible exact ih2 _ _ _ _ _ _ _)
   | (with_reducible exact LeO.refl _)
   | (with_reducible exact LeO.none _)
   | (with_reducible refine LeO.ite ?_ ?_)
   | (with_reducible refine LeO.bind ?_ (fun _ => ?_))
   | exact ih0 _ _ _
   | exact ih1 _ _ _ _ _ _ _
   | exact ih2 _ _ _ _ _ _ _
   | exact LeO.none _
   | refine LeO.ite ?_ ?_
   | refine LeO.bind ?_ (fun _ => ?_)
set_option maxHeartbeats 8000000 in
set_option maxRecDepth 100000 in
theorem datetime_Split.calls (k : Nat) (a0 : Int) (a1 : Int) (r1 : Int) (r2 : Int) (r3 : Int) (r4 : Int) (r5 : Int) (r6 : Int) (r7 : Int) (w : World) (h : datetime_Split.f k a0 a1 = some (r1, r2, r3, r4, r5, r6, r7)) :
  Calls Try.prog 66 #[.int .i64 a0, .int .i64 a1] w fun e w' => e = .returned (.tuple #[.agg #[.int .i64 r1, .int .i64 r2, .int .i64 r3, .int .i64 r4, .int .i64 r5, .int .i64 r6], .int .i64 r7]) ∧ Below w.heap.size w w' := by
 have hu104 := Try.underlying104
 have HB := Aside0.mk (Below.refl w.heap.size w)
 have H : ((datetime_isTime.f a0).bind fun t160 => (if t160 = true then ((datetime_isZone.f a1).bind fun t161 => (datetime_Split.j0 k a0 a1 (!t161))) else (datetime_Split.j0 k a0 a1 true))) = some (r1, r2, r3, r4, r5, r6, r7) := h
 clear h
 have HC3 := Aside0.mk H
 clear H
 go_enter Try.func66, Try.ntmps66
 go_upto_region 1 with (first | ((with_reducible refine gate_dst (N := 4) rfl ?_); refine box_event ?hg (N := 4) ?hd (cs := #[.int .i64 0, .int .i64 0, .int .i64 0, .int .i64 0, .int .i64 0, .int .i64 0]) (t := 104) ?hr ?_; (case hd => rfl); (case hg => rfl); (case hr => first | (go_simp; done) | (go_simp; rfl)); intro gb159 hg w4 hbox hb; have n0_ := Aside0.mk (below_step (by repeat (first | (with_reducible first | exact HB.out | apply below_alloc | apply pw_below_drewN | apply below_drew1) | exact HB.out)) hb); have n1_ := Aside0.mk (hbox); have n2_ := Aside0.mk ((by rw [hg]; exact (below_size (by repeat (first | (with_reducible first | exact HB.out | apply below_alloc | apply pw_below_drewN | apply below_drew1) | exact HB.out))) : w.heap.size ≤ gb159)); have n3_ := Aside0.mk ((by rw [hg]; exact (below_size (by repeat (first | (with_reducible first | exact HB.out | apply below_alloc | apply pw_below_drewN | apply below_drew1) | exact HB.out))) : w.heap.size ≤ gb159)); clear HB; have HB := n0_; have BK159 := n1_; have GW159 := n2_; have GE159 := n3_; clear n0_ n1_ n2_ n3_; clear hb hbox hg))
 (try simp only [Act.put, List.setIfInBounds_toArray, List.set_cons_zero, List.set_cons_succ])
 go_cut [17] (fun v17 wc => ∃ (kq : Nat) (x17_2 : Bool), v17 = .bool x17_2 ∧ Aside0 (datetime_Split.j0 kq a0 a1 x17_2 = some (r1, r2, r3, r4, r5, r6, r7)) ∧ Aside0 (kq ≤ k) ∧ Aside0 (wc.heap[gb159]? = some (.cells #[.int .i64 0, .int .i64 0, .int .i64 0, .int .i64 0, .int .i64 0, .int .i64 0] 104 (0, 0))) ∧ Aside0 (Below w.heap.size w wc))
 case first =>
  have H := HC3.out
  clear HC3
  replace H := Option.bind_eq_some_iff.mp H
  obtain ⟨t160, A50, H⟩ := H
  replace H : (if t160 = true then ((datetime_isZone.f a1).bind fun t161 => (datetime_Split.j0 k a0 a1 (!t161))) else (datetime_Split.j0 k a0 a1 true)) = some (r1, r2, r3, r4, r5, r6, r7) := H
  have A5 := Aside0.mk A50
  clear A50
  by_cases c6 : t160 = true
  ·subst c6
   have H1 : ((datetime_isZone.f a1).bind fun t161 => (datetime_Split.j0 k a0 a1 (!t161))) = some (r1, r2, r3, r4, r5, r6, r7) := by rw [if_pos rfl] at H; exact H
   clear H
   have H := H1
   clear H1
   replace H := Option.bind_eq_some_iff.mp H
   obtain ⟨t161, A70, H⟩ := H
   replace H : (datetime_Split.j0 k a0 a1 (!t161)) = some (r1, r2, r3, r4, r5, r6, r7) := H
   have A7 := Aside0.mk A70
   clear A70
   have H' := Aside0.mk H
   clear H
   go_wp2_with (first | ((with_reducible refine gate_callee (f := 85) rfl ?_); refine goesL_ (some 11) rfl rfl Try.func85 (by kernel_rfl) rfl #[.int .i64 a0] rfl (by (try simp only [List.map_toArray, List.map_cons, List.map_nil]); first | done | rfl | (simp only [List.length_drop, List.length_take]; rfl)) ?_; (with_reducible refine (datetime_isTime.calls a0 true _ A5.out).mono ?_); rintro e w' ⟨rfl, ⟨nd, rfl⟩⟩; refine ⟨_, rfl, ?_⟩) | (go_at_call 86; (with_reducible refine (datetime_isZone.calls a1 t161 _ A7.out).mono ?_); rintro e w' ⟨rfl, ⟨nd, rfl⟩⟩))
   go_meet
   case rel => exact ⟨_, (!t161), (by first | rfl | (simp; done) | (simp [*]; done)), H', ⟨by first | omega | exact Nat.le_refl _⟩, ⟨by (with_reducible repeat (first | refine blk_drewN ?_ _ | refine blk_drew ?_ | refine blk_alloc ?_ _)); exact BK159.out⟩, ⟨by repeat (first | (with_reducible first | exact HB.out | apply below_alloc | apply pw_below_drewN | apply below_drew1 | refine below_set ?_ GE159.out) | exact HB.out)⟩⟩
  ·replace c6 := Bool.eq_false_iff.mpr c6
   subst c6
   have H1 : (datetime_Split.j0 k a0 a1 true) = some (r1, r2, r3, r4, r5, r6, r7) := by rw [if_neg (show ¬ (false = true) by decide)] at H; exact H
   clear H
   have H := H1
   clear H1
   have H' := Aside0.mk H
   clear H
   go_wp2_with (first | ((with_reducible refine gate_callee (f := 85) rfl ?_); refine goesL_ (some 11) rfl rfl Try.func85 (by kernel_rfl) rfl #[.int .i64 a0] rfl (by (try simp only [List.map_toArray, List.map_cons, List.map_nil]); first | done | rfl | (simp only [List.length_drop, List.length_take]; rfl)) ?_; (with_reducible refine (datetime_isTime.calls a0 false _ A5.out).mono ?_); rintro e w' ⟨rfl, ⟨nd, rfl⟩⟩; refine ⟨_, rfl, ?_⟩))
   go_meet
   case rel => exact ⟨_, (true), (by first | rfl | (simp; done) | (simp [*]; done)), H', ⟨by first | omega | exact Nat.le_refl _⟩, ⟨by (with_reducible repeat (first | refine blk_drewN ?_ _ | refine blk_drew ?_ | refine blk_alloc ?_ _)); exact BK159.out⟩, ⟨by repeat (first | (with_reducible first | exact HB.out | apply below_alloc | apply pw_below_drewN | apply below_drew1 | refine below_set ?_ GE159.out) | exact HB.out)⟩⟩
 case rest =>
  clear HC3
  try clear p2
  try clear c6
  obtain ⟨kq, x17_2, rfl, HA, HJ2, BK159, HB⟩ := hcut
  cases kq with
  | zero => exact absurd HA.out (by simp [datetime_Split.j0])
  | succ kj2 =>
   have H := HA.out
   clear HA
   simp only [datetime_Split.j0] at H
   by_cases c8 : x17_2 = true
   ·subst c8
    have H1 : (some (0, 0, 0, 0, 0, 0, 2)) = some (r1, r2, r3, r4, r5, r6, r7) := by rw [if_pos rfl] at H; exact H
    clear H
    have H := H1
    clear H1
    simp only [Option.some.injEq, Prod.mk.injEq] at H
    obtain ⟨rfl, rfl, rfl, rfl, rfl, rfl, rfl⟩ := H
    have hcz9_0 : wc.cell? ⟨gb159, 0, none⟩ = some (.int .i64 0) := (blk_cell BK159.out 0).trans rfl
    have hcz9_1 : wc.cell? ⟨gb159, 1, none⟩ = some (.int .i64 0) := (blk_cell BK159.out 1).trans rfl
    have hcz9_2 : wc.cell? ⟨gb159, 2, none⟩ = some (.int .i64 0) := (blk_cell BK159.out 2).trans rfl
    have hcz9_3 : wc.cell? ⟨gb159, 3, none⟩ = some (.int .i64 0) := (blk_cell BK159.out 3).trans rfl
    have hcz9_4 : wc.cell? ⟨gb159, 4, none⟩ = some (.int .i64 0) := (blk_cell BK159.out 4).trans rfl
    have hcz9_5 : wc.cell? ⟨gb159, 5, none⟩ = some (.int .i64 0) := (blk_cell BK159.out 5).trans rfl
    have hfz9_0 := blk_frozen BK159.out 0
    have hfz9_1 := blk_frozen BK159.out 1
    have hfz9_2 := blk_frozen BK159.out 2
    have hfz9_3 := blk_frozen BK159.out 3
    have hfz9_4 := blk_frozen BK159.out 4
    have hfz9_5 := blk_frozen BK159.out 5
    go_wp2
    refine bodyPost_ret (results_ct rfl _ _ gb159 104 #[.int .i64 0, .int .i64 0, .int .i64 0, .int .i64 0, .int .i64 0, .int .i64 0] (0, 0) _ rfl (by (with_reducible repeat (first | refine blk_drewN ?_ _ | refine blk_drew ?_ | refine blk_alloc ?_ _)); refine blk_put (cs := #[.int .i64 0, .int .i64 0, .int .i64 0, .int .i64 0, .int .i64 0, .int .i64 0]) ?_ 5 _ rfl; (with_reducible repeat (first | refine blk_drewN ?_ _ | refine blk_drew ?_ | refine blk_alloc ?_ _)); refine blk_put (cs := #[.int .i64 0, .int .i64 0, .int .i64 0, .int .i64 0, .int .i64 0, .int .i64 0]) ?_ 4 _ rfl; (with_reducible repeat (first | refine blk_drewN ?_ _ | refine blk_drew ?_ | refine blk_alloc ?_ _)); refine blk_put (cs := #[.int .i64 0, .int .i64 0, .int .i64 0, .int .i64 0, .int .i64 0, .int .i64 0]) ?_ 3 _ rfl; (with_reducible repeat (first | refine blk_drewN ?_ _ | refine blk_drew ?_ | refine blk_alloc ?_ _)); refine blk_put (cs := #[.int .i64 0, .int .i64 0, .int .i64 0, .int .i64 0, .int .i64 0, .int .i64 0]) ?_ 2 _ rfl; (with_reducible repeat (first | refine blk_drewN ?_ _ | refine blk_drew ?_ | refine blk_alloc ?_ _)); refine blk_put (cs := #[.int .i64 0, .int .i64 0, .int .i64 0, .int .i64 0, .int .i64 0, .int .i64 0]) ?_ 1 _ rfl; (with_reducible repeat (first | refine blk_drewN ?_ _ | refine blk_drew ?_ | refine blk_alloc ?_ _)); refine blk_put (cs := #[.int .i64 0, .int .i64 0, .int .i64 0, .int .i64 0, .int .i64 0, .int .i64 0]) ?_ 0 _ rfl; (with_reducible repeat (first | refine blk_drewN ?_ _ | refine blk_drew ?_ | refine blk_alloc ?_ _)); exact BK159.out) Try.underlying104 rfl (by kernel_rfl)) rfl ?_
    exact ⟨by first | rfl | (simp [errW_none, errW_some] <;> rfl) | (simp [*, errW_none, errW_some] <;> rfl), by repeat (first | (with_reducible first | exact HB.out | apply below_alloc | apply pw_below_drewN | apply below_drew1 | refine below_set ?_ GE159.out) | exact HB.out)⟩
   ·replace c8 := Bool.eq_false_iff.mpr c8
    subst c8
    have H1 : (datetime_Split.l0 kj2 (wrap64 (Int.tdiv (wrap64 (a0 + (wrap64 (60 * a1)))) 86400)) 1970 1 0 (wrap64 (Int.tdiv (Int.tmod (wrap64 (a0 + (wrap64 (60 * a1)))) 86400) 3600)) (Int.tmod (wrap64 (Int.tdiv (Int.tmod (wrap64 (a0 + (wrap64 (60 * a1)))) 86400) 60)) 60) (Int.tmod (wrap64 (a0 + (wrap64 (60 * a1)))) 60)) = some (r1, r2, r3, r4, r5, r6, r7) := by rw [if_neg (show ¬ (false = true) by decide)] at H; exact H
    clear H
    have H := H1
    clear H1
    have H' := Aside0.mk H
    clear H
    go_wp2_with (first | ((with_reducible refine gate_dst (N := 9) rfl ?_); refine box_event ?hg (N := 9) ?hd (cs := #[.int .i64 0, .int .i64 0, .int .i64 0, .int .i64 0, .int .i64 0, .int .i64 0]) (t := 104) ?hr ?_; (case hd => rfl); (case hg => rfl); (case hr => first | (go_simp; done) | (go_simp; rfl)); intro gb162 hg w10 hbox hb; have n0_ := Aside0.mk (blk_below (g := gb159) (o := .cells #[.int .i64 0, .int .i64 0, .int .i64 0, .int .i64 0, .int .i64 0, .int .i64 0] 104 (0, 0)) (by (with_reducible repeat (first | refine blk_drewN ?_ _ | refine blk_drew ?_ | refine blk_alloc ?_ _)); exact BK159.out) hb); have n1_ := Aside0.mk (below_step (by repeat (first | (with_reducible first | exact HB.out | apply below_alloc | apply pw_below_drewN | apply below_drew1 | refine below_set ?_ GE159.out) | exact HB.out)) hb); have n2_ := Aside0.mk (hbox); have n3_ := Aside0.mk ((by rw [hg]; exact (below_size (by repeat (first | (with_reducible first | exact HB.out | apply below_alloc | apply pw_below_drewN | apply below_drew1 | refine below_set ?_ GE159.out) | exact HB.out))) : w.heap.size ≤ gb162)); have n4_ := Aside0.mk ((by rw [hg]; exact (below_size (by repeat (first | (with_reducible first | exact HB.out | apply below_alloc | apply pw_below_drewN | apply below_drew1 | refine below_set ?_ GE159.out) | exact HB.out))) : w.heap.size ≤ gb162)); have n5_ := Aside0.mk ((by rw [hg]; exact Nat.ne_of_lt (blk_lt (g := gb159) (o := .cells #[.int .i64 0, .int .i64 0, .int .i64 0, .int .i64 0, .int .i64 0, .int .i64 0] 104 (0, 0)) (by (with_reducible repeat (first | refine blk_drewN ?_ _ | refine blk_drew ?_ | refine blk_alloc ?_ _)); exact BK159.out)) : gb159 ≠ gb162)); have n6_ := Aside0.mk ((by rw [hg]; exact Nat.ne_of_gt (blk_lt (g := gb159) (o := .cells #[.int .i64 0, .int .i64 0, .int .i64 0, .int .i64 0, .int .i64 0, .int .i64 0] 104 (0, 0)) (by (with_reducible repeat (first | refine blk_drewN ?_ _ | refine blk_drew ?_ | refine blk_alloc ?_ _)); exact BK159.out)) : gb162 ≠ gb159)); clear BK159; clear HB; have BK159 := n0_; have HB := n1_; have BK162 := n2_; have GW162 := n3_; have GE162 := n4_; have NB159_162 := n5_; have NB162_159 := n6_; clear n0_ n1_ n2_ n3_ n4_ n5_ n6_; clear hb hbox hg; have hnb11 := NB162_159.out; have hnc11 := NB159_162.out; have hcz12_0 : w10.cell? ⟨gb162, 0, none⟩ = some (.int .i64 0) := (blk_cell BK162.out 0).trans rfl; have hcz12_1 : w10.cell? ⟨gb162, 1, none⟩ = some (.int .i64 0) := (blk_cell BK162.out 1).trans rfl; have hcz12_2 : w10.cell? ⟨gb162, 2, none⟩ = some (.int .i64 0) := (blk_cell BK162.out 2).trans rfl; have hcz12_3 : w10.cell? ⟨gb162, 3, none⟩ = some (.int .i64 0) := (blk_cell BK162.out 3).trans rfl; have hcz12_4 : w10.cell? ⟨gb162, 4, none⟩ = some (.int .i64 0) := (blk_cell BK162.out 4).trans rfl; have hcz12_5 : w10.cell? ⟨gb162, 5, none⟩ = some (.int .i64 0) := (blk_cell BK162.out 5).trans rfl; have hfz12_0 := blk_frozen BK162.out 0; have hfz12_1 := blk_frozen BK162.out 1; have hfz12_2 := blk_frozen BK162.out 2; have hfz12_3 := blk_frozen BK162.out 3; have hfz12_4 := blk_frozen BK162.out 4; have hfz12_5 := blk_frozen BK162.out 5))
    go_loopg [7] kj2 (fun kq v7 w' => ∃ (x7_2 : Int) (x163000_2 : Int), v7 = .int .i64 x7_2 ∧ Aside0 (datetime_Split.l0 kq x7_2 x163000_2 1 0 (wrap64 (Int.tdiv (Int.tmod (wrap64 (a0 + (wrap64 (60 * a1)))) 86400) 3600)) (Int.tmod (wrap64 (Int.tdiv (Int.tmod (wrap64 (a0 + (wrap64 (60 * a1)))) 86400) 60)) 60) (Int.tmod (wrap64 (a0 + (wrap64 (60 * a1)))) 60) = some (r1, r2, r3, r4, r5, r6, r7)) ∧ Aside0 (kq ≤ kj2) ∧ Aside0 (w'.heap[gb159]? = some (.cells #[.int .i64 0, .int .i64 0, .int .i64 0, .int .i64 0, .int .i64 0, .int .i64 0] 104 (0, 0))) ∧ Aside0 (w'.heap[gb162]? = some (.cells #[.int .i64 x163000_2, .int .i64 1, .int .i64 0, .int .i64 (wrap64 (Int.tdiv (Int.tmod (wrap64 (a0 + (wrap64 (60 * a1)))) 86400) 3600)), .int .i64 (Int.tmod (wrap64 (Int.tdiv (Int.tmod (wrap64 (a0 + (wrap64 (60 * a1)))) 86400) 60)) 60), .int .i64 (Int.tmod (wrap64 (a0 + (wrap64 (60 * a1)))) 60)] 104 (0, 0))) ∧ Aside0 (Below w.heap.size w w'))
    case atStart => exact ⟨(wrap64 (Int.tdiv (wrap64 (a0 + (wrap64 (60 * a1)))) 86400)), (1970), (by first | rfl | (simp; done) | (simp [*]; done)), H', ⟨Nat.le_refl _⟩, ⟨by (with_reducible repeat (first | refine blk_drewN ?_ _ | refine blk_drew ?_ | refine blk_alloc ?_ _)); refine blk_far ?_ NB159_162.out _; (with_reducible repeat (first | refine blk_drewN ?_ _ | refine blk_drew ?_ | refine blk_alloc ?_ _)); refine blk_far ?_ NB159_162.out _; (with_reducible repeat (first | refine blk_drewN ?_ _ | refine blk_drew ?_ | refine blk_alloc ?_ _)); refine blk_far ?_ NB159_162.out _; (with_reducible repeat (first | refine blk_drewN ?_ _ | refine blk_drew ?_ | refine blk_alloc ?_ _)); refine blk_far ?_ NB159_162.out _; (with_reducible repeat (first | refine blk_drewN ?_ _ | refine blk_drew ?_ | refine blk_alloc ?_ _)); refine blk_far ?_ NB159_162.out _; (with_reducible repeat (first | refine blk_drewN ?_ _ | refine blk_drew ?_ | refine blk_alloc ?_ _)); refine blk_far ?_ NB159_162.out _; (with_reducible repeat (first | refine blk_drewN ?_ _ | refine blk_drew ?_ | refine blk_alloc ?_ _)); exact BK159.out⟩, ⟨by (with_reducible repeat (first | refine blk_drewN ?_ _ | refine blk_drew ?_ | refine blk_alloc ?_ _)); refine blk_put (cs := #[.int .i64 1970, .int .i64 1, .int .i64 0, .int .i64 (wrap64 (Int.tdiv (Int.tmod (wrap64 (a0 + (wrap64 (60 * a1)))) 86400) 3600)), .int .i64 (Int.tmod (wrap64 (Int.tdiv (Int.tmod (wrap64 (a0 + (wrap64 (60 * a1)))) 86400) 60)) 60), .int .i64 0]) ?_ 5 _ rfl; (with_reducible repeat (first | refine blk_drewN ?_ _ | refine blk_drew ?_ | refine blk_alloc ?_ _)); refine blk_put (cs := #[.int .i64 1970, .int .i64 1, .int .i64 0, .int .i64 (wrap64 (Int.tdiv (Int.tmod (wrap64 (a0 + (wrap64 (60 * a1)))) 86400) 3600)), .int .i64 0, .int .i64 0]) ?_ 4 _ rfl; (with_reducible repeat (first | refine blk_drewN ?_ _ | refine blk_drew ?_ | refine blk_alloc ?_ _)); refine blk_put (cs := #[.int .i64 1970, .int .i64 1, .int .i64 0, .int .i64 0, .int .i64 0, .int .i64 0]) ?_ 3 _ rfl; (with_reducible repeat (first | refine blk_drewN ?_ _ | refine blk_drew ?_ | refine blk_alloc ?_ _)); refine blk_put (cs := #[.int .i64 1970, .int .i64 1, .int .i64 0, .int .i64 0, .int .i64 0, .int .i64 0]) ?_ 2 _ rfl; (with_reducible repeat (first | refine blk_drewN ?_ _ | refine blk_drew ?_ | refine blk_alloc ?_ _)); refine blk_put (cs := #[.int .i64 1970, .int .i64 0, .int .i64 0, .int .i64 0, .int .i64 0, .int .i64 0]) ?_ 1 _ rfl; (with_reducible repeat (first | refine blk_drewN ?_ _ | refine blk_drew ?_ | refine blk_alloc ?_ _)); refine blk_put (cs := #[.int .i64 0, .int .i64 0, .int .i64 0, .int .i64 0, .int .i64 0, .int .i64 0]) ?_ 0 _ rfl; (with_reducible repeat (first | refine blk_drewN ?_ _ | refine blk_drew ?_ | refine blk_alloc ?_ _)); exact BK162.out⟩, ⟨by repeat (first | (with_reducible first | exact HB.out | apply below_alloc | apply pw_below_drewN | apply below_drew1 | refine below_set ?_ GE159.out | refine below_set ?_ GE162.out) | exact HB.out)⟩⟩
    case round =>
     clear H'
     try clear c1
     try clear p2
     try clear c6
     try clear p6
     try clear c8
     try clear c11
     try clear hcz12_0
     try clear hcz12_1
     try clear hcz12_2
     try clear hcz12_3
     try clear hcz12_4
     try clear hcz12_5
     try clear hcz9_0
     try clear hcz9_1
     try clear hcz9_2
     try clear hcz9_3
     try clear hcz9_4
     try clear hcz9_5
     try clear hfz12_0
     try clear hfz12_1
     try clear hfz12_2
     try clear hfz12_3
     try clear hfz12_4
     try clear hfz12_5
     try clear hfz9_0
     try clear hfz9_1
     try clear hfz9_2
     try clear hfz9_3
     try clear hfz9_4
     try clear hfz9_5
     try clear p2
     obtain ⟨x7_2, x163000_2, rfl, HA, HK2, BK159, BK162, HB⟩ := hrel
     cases gk with
     | zero => exact absurd HA.out (by simp [datetime_Split.l0])
     | succ k2 =>
      have H := HA.out
      clear HA
      simp only [datetime_Split.l0] at H
      replace H := Option.bind_eq_some_iff.mp H
      obtain ⟨t163, A130, H⟩ := H
      replace H : (if x7_2 ≥ t163 then ((datetime_yearDays.f x163000_2).bind fun t164 => (datetime_Split.l0 k2 (wrap64 (x7_2 - t164)) (wrap64 (x163000_2 + 1)) 1 0 (wrap64 (Int.tdiv (Int.tmod (wrap64 (a0 + (wrap64 (60 * a1)))) 86400) 3600)) (Int.tmod (wrap64 (Int.tdiv (Int.tmod (wrap64 (a0 + (wrap64 (60 * a1)))) 86400) 60)) 60) (Int.tmod (wrap64 (a0 + (wrap64 (60 * a1)))) 60))) else (datetime_Split.l1 k2 x7_2 x163000_2 1 0 (wrap64 (Int.tdiv (Int.tmod (wrap64 (a0 + (wrap64 (60 * a1)))) 86400) 3600)) (Int.tmod (wrap64 (Int.tdiv (Int.tmod (wrap64 (a0 + (wrap64 (60 * a1)))) 86400) 60)) 60) (Int.tmod (wrap64 (a0 + (wrap64 (60 * a1)))) 60))) = some (r1, r2, r3, r4, r5, r6, r7) := H
      have A13 := Aside0.mk A130
      clear A130
      by_cases c14 : x7_2 ≥ t163
      ·rw [if_pos c14] at H
       have c14b0 : decide (t163 ≤ x7_2) = true := decide_eq_true c14
       clear c14
       replace H := Option.bind_eq_some_iff.mp H
       obtain ⟨t164, A150, H⟩ := H
       replace H : (datetime_Split.l0 k2 (wrap64 (x7_2 - t164)) (wrap64 (x163000_2 + 1)) 1 0 (wrap64 (Int.tdiv (Int.tmod (wrap64 (a0 + (wrap64 (60 * a1)))) 86400) 3600)) (Int.tmod (wrap64 (Int.tdiv (Int.tmod (wrap64 (a0 + (wrap64 (60 * a1)))) 86400) 60)) 60) (Int.tmod (wrap64 (a0 + (wrap64 (60 * a1)))) 60)) = some (r1, r2, r3, r4, r5, r6, r7) := H
       have A15 := Aside0.mk A150
       clear A150
       have H' := Aside0.mk H
       clear H
       have hnb16 := NB162_159.out
       have hnc16 := NB159_162.out
       have hcz17_0 : wr.cell? ⟨gb162, 0, none⟩ = some (.int .i64 x163000_2) := (blk_cell BK162.out 0).trans rfl
       have hcz17_1 : wr.cell? ⟨gb162, 1, none⟩ = some (.int .i64 1) := (blk_cell BK162.out 1).trans rfl
       have hcz17_2 : wr.cell? ⟨gb162, 2, none⟩ = some (.int .i64 0) := (blk_cell BK162.out 2).trans rfl
       have hcz17_3 : wr.cell? ⟨gb162, 3, none⟩ = some (.int .i64 (wrap64 (Int.tdiv (Int.tmod (wrap64 (a0 + (wrap64 (60 * a1)))) 86400) 3600))) := (blk_cell BK162.out 3).trans rfl
       have hcz17_4 : wr.cell? ⟨gb162, 4, none⟩ = some (.int .i64 (Int.tmod (wrap64 (Int.tdiv (Int.tmod (wrap64 (a0 + (wrap64 (60 * a1)))) 86400) 60)) 60)) := (blk_cell BK162.out 4).trans rfl
       have hcz17_5 : wr.cell? ⟨gb162, 5, none⟩ = some (.int .i64 (Int.tmod (wrap64 (a0 + (wrap64 (60 * a1)))) 60)) := (blk_cell BK162.out 5).trans rfl
       have hfz17_0 := blk_frozen BK162.out 0
       have hfz17_1 := blk_frozen BK162.out 1
       have hfz17_2 := blk_frozen BK162.out 2
       have hfz17_3 := blk_frozen BK162.out 3
       have hfz17_4 := blk_frozen BK162.out 4
       have hfz17_5 := blk_frozen BK162.out 5
       go_wp2_with (first | ((with_reducible refine gate_callee (f := 87) rfl ?_); refine goesL_ (some 38) rfl rfl Try.func87 (by kernel_rfl) rfl #[.int .i64 x163000_2] rfl (by (try simp only [List.map_toArray, List.map_cons, List.map_nil]); first | done | rfl | (simp only [List.length_drop, List.length_take]; rfl)) ?_; (with_reducible refine (datetime_yearDays.calls x163000_2 t163 _ A13.out).mono ?_); rintro e w18 ⟨rfl, hb⟩; refine ⟨_, rfl, ?_⟩; have n0_ := Aside0.mk (blk_below (g := gb159) (o := .cells #[.int .i64 0, .int .i64 0, .int .i64 0, .int .i64 0, .int .i64 0, .int .i64 0] 104 (0, 0)) (by (with_reducible repeat (first | refine blk_drewN ?_ _ | refine blk_drew ?_ | refine blk_alloc ?_ _)); exact BK159.out) hb); have n1_ := Aside0.mk (blk_below (g := gb162) (o := .cells #[.int .i64 x163000_2, .int .i64 1, .int .i64 0, .int .i64 (wrap64 (Int.tdiv (Int.tmod (wrap64 (a0 + (wrap64 (60 * a1)))) 86400) 3600)), .int .i64 (Int.tmod (wrap64 (Int.tdiv (Int.tmod (wrap64 (a0 + (wrap64 (60 * a1)))) 86400) 60)) 60), .int .i64 (Int.tmod (wrap64 (a0 + (wrap64 (60 * a1)))) 60)] 104 (0, 0)) (by (with_reducible repeat (first | refine blk_drewN ?_ _ | refine blk_drew ?_ | refine blk_alloc ?_ _)); exact BK162.out) hb); have n2_ := Aside0.mk (below_step (by repeat (first | (with_reducible first | exact HB.out | apply below_alloc | apply pw_below_drewN | apply below_drew1 | refine below_set ?_ GE159.out | refine below_set ?_ GE162.out) | exact HB.out)) hb); clear BK159; clear BK162; clear HB; have BK159 := n0_; have BK162 := n1_; have HB := n2_; clear n0_ n1_ n2_; (try clear hb); (try clear hb2); (try clear hk); (try clear hi); have hcz19_0 : w18.cell? ⟨gb162, 0, none⟩ = some (.int .i64 x163000_2) := (blk_cell BK162.out 0).trans rfl; have hcz19_1 : w18.cell? ⟨gb162, 1, none⟩ = some (.int .i64 1) := (blk_cell BK162.out 1).trans rfl; have hcz19_2 : w18.cell? ⟨gb162, 2, none⟩ = some (.int .i64 0) := (blk_cell BK162.out 2).trans rfl; have hcz19_3 : w18.cell? ⟨gb162, 3, none⟩ = some (.int .i64 (wrap64 (Int.tdiv (Int.tmod (wrap64 (a0 + (wrap64 (60 * a1)))) 86400) 3600))) := (blk_cell BK162.out 3).trans rfl; have hcz19_4 : w18.cell? ⟨gb162, 4, none⟩ = some (.int .i64 (Int.tmod (wrap64 (Int.tdiv (Int.tmod (wrap64 (a0 + (wrap64 (60 * a1)))) 86400) 60)) 60)) := (blk_cell BK162.out 4).trans rfl; have hcz19_5 : w18.cell? ⟨gb162, 5, none⟩ = some (.int .i64 (Int.tmod (wrap64 (a0 + (wrap64 (60 * a1)))) 60)) := (blk_cell BK162.out 5).trans rfl; have hfz19_0 := blk_frozen BK162.out 0; have hfz19_1 := blk_frozen BK162.out 1; have hfz19_2 := blk_frozen BK162.out 2; have hfz19_3 := blk_frozen BK162.out 3; have hfz19_4 := blk_frozen BK162.out 4; have hfz19_5 := blk_frozen BK162.out 5) | ((with_reducible refine gate_callee (f := 87) rfl ?_); refine goesL_ (some 43) rfl rfl Try.func87 (by kernel_rfl) rfl #[.int .i64 x163000_2] rfl (by (try simp only [List.map_toArray, List.map_cons, List.map_nil]); first | done | rfl | (simp only [List.length_drop, List.length_take]; rfl)) ?_; (with_reducible refine (datetime_yearDays.calls x163000_2 t164 _ A15.out).mono ?_); rintro e w20 ⟨rfl, hb⟩; refine ⟨_, rfl, ?_⟩; have n0_ := Aside0.mk (blk_below (g := gb159) (o := .cells #[.int .i64 0, .int .i64 0, .int .i64 0, .int .i64 0, .int .i64 0, .int .i64 0] 104 (0, 0)) (by (with_reducible repeat (first | refine blk_drewN ?_ _ | refine blk_drew ?_ | refine blk_alloc ?_ _)); exact BK159.out) hb); have n1_ := Aside0.mk (blk_below (g := gb162) (o := .cells #[.int .i64 x163000_2, .int .i64 1, .int .i64 0, .int .i64 (wrap64 (Int.tdiv (Int.tmod (wrap64 (a0 + (wrap64 (60 * a1)))) 86400) 3600)), .int .i64 (Int.tmod (wrap64 (Int.tdiv (Int.tmod (wrap64 (a0 + (wrap64 (60 * a1)))) 86400) 60)) 60), .int .i64 (Int.tmod (wrap64 (a0 + (wrap64 (60 * a1)))) 60)] 104 (0, 0)) (by (with_reducible repeat (first | refine blk_drewN ?_ _ | refine blk_drew ?_ | refine blk_alloc ?_ _)); exact BK162.out) hb); have n2_ := Aside0.mk (below_step (by repeat (first | (with_reducible first | exact HB.out | apply below_alloc | apply pw_below_drewN | apply below_drew1 | refine below_set ?_ GE159.out | refine below_set ?_ GE162.out) | exact HB.out)) hb); clear BK159; clear BK162; clear HB; have BK159 := n0_; have BK162 := n1_; have HB := n2_; clear n0_ n1_ n2_; (try clear hb); (try clear hb2); (try clear hk); (try clear hi); have hcz21_0 : w20.cell? ⟨gb162, 0, none⟩ = some (.int .i64 x163000_2) := (blk_cell BK162.out 0).trans rfl; have hcz21_1 : w20.cell? ⟨gb162, 1, none⟩ = some (.int .i64 1) := (blk_cell BK162.out 1).trans rfl; have hcz21_2 : w20.cell? ⟨gb162, 2, none⟩ = some (.int .i64 0) := (blk_cell BK162.out 2).trans rfl; have hcz21_3 : w20.cell? ⟨gb162, 3, none⟩ = some (.int .i64 (wrap64 (Int.tdiv (Int.tmod (wrap64 (a0 + (wrap64 (60 * a1)))) 86400) 3600))) := (blk_cell BK162.out 3).trans rfl; have hcz21_4 : w20.cell? ⟨gb162, 4, none⟩ = some (.int .i64 (Int.tmod (wrap64 (Int.tdiv (Int.tmod (wrap64 (a0 + (wrap64 (60 * a1)))) 86400) 60)) 60)) := (blk_cell BK162.out 4).trans rfl; have hcz21_5 : w20.cell? ⟨gb162, 5, none⟩ = some (.int .i64 (Int.tmod (wrap64 (a0 + (wrap64 (60 * a1)))) 60)) := (blk_cell BK162.out 5).trans rfl; have hfz21_0 := blk_frozen BK162.out 0; have hfz21_1 := blk_frozen BK162.out 1; have hfz21_2 := blk_frozen BK162.out 2; have hfz21_3 := blk_frozen BK162.out 3; have hfz21_4 := blk_frozen BK162.out 4; have hfz21_5 := blk_frozen BK162.out 5))
       go_roundg k2
       case measure => have := HJ2.out; have := HK2.out; omega
       case rel => exact ⟨(wrap64 (x7_2 - t164)), (wrap64 (x163000_2 + 1)), (by first | rfl | (simp; done) | (simp [*]; done)), H', ⟨by have := HJ2.out; have := HK2.out; omega⟩, ⟨by (with_reducible repeat (first | refine blk_drewN ?_ _ | refine blk_drew ?_ | refine blk_alloc ?_ _)); refine blk_far ?_ NB159_162.out _; (with_reducible repeat (first | refine blk_drewN ?_ _ | refine blk_drew ?_ | refine blk_alloc ?_ _)); exact BK159.out⟩, ⟨by (with_reducible repeat (first | refine blk_drewN ?_ _ | refine blk_drew ?_ | refine blk_alloc ?_ _)); refine blk_put (cs := #[.int .i64 x163000_2, .int .i64 1, .int .i64 0, .int .i64 (wrap64 (Int.tdiv (Int.tmod (wrap64 (a0 + (wrap64 (60 * a1)))) 86400) 3600)), .int .i64 (Int.tmod (wrap64 (Int.tdiv (Int.tmod (wrap64 (a0 + (wrap64 (60 * a1)))) 86400) 60)) 60), .int .i64 (Int.tmod (wrap64 (a0 + (wrap64 (60 * a1)))) 60)]) ?_ 0 _ rfl; (with_reducible repeat (first | refine blk_drewN ?_ _ | refine blk_drew ?_ | refine blk_alloc ?_ _)); exact BK162.out⟩, ⟨by repeat (first | (with_reducible first | exact HB.out | apply below_alloc | apply pw_below_drewN | apply below_drew1 | refine below_set ?_ GE159.out | refine below_set ?_ GE162.out) | exact HB.out)⟩⟩
      ·rw [if_neg c14] at H
       have c14b0 : decide (t163 ≤ x7_2) = false := decide_eq_false c14
       clear c14
       have H' := Aside0.mk H
       clear H
       have hnb22 := NB162_159.out
       have hnc22 := NB159_162.out
       have hcz23_0 : wr.cell? ⟨gb162, 0, none⟩ = some (.int .i64 x163000_2) := (blk_cell BK162.out 0).trans rfl
       have hcz23_1 : wr.cell? ⟨gb162, 1, none⟩ = some (.int .i64 1) := (blk_cell BK162.out 1).trans rfl
       have hcz23_2 : wr.cell? ⟨gb162, 2, none⟩ = some (.int .i64 0) := (blk_cell BK162.out 2).trans rfl
       have hcz23_3 : wr.cell? ⟨gb162, 3, none⟩ = some (.int .i64 (wrap64 (Int.tdiv (Int.tmod (wrap64 (a0 + (wrap64 (60 * a1)))) 86400) 3600))) := (blk_cell BK162.out 3).trans rfl
       have hcz23_4 : wr.cell? ⟨gb162, 4, none⟩ = some (.int .i64 (Int.tmod (wrap64 (Int.tdiv (Int.tmod (wrap64 (a0 + (wrap64 (60 * a1)))) 86400) 60)) 60)) := (blk_cell BK162.out 4).trans rfl
       have hcz23_5 : wr.cell? ⟨gb162, 5, none⟩ = some (.int .i64 (Int.tmod (wrap64 (a0 + (wrap64 (60 * a1)))) 60)) := (blk_cell BK162.out 5).trans rfl
       have hfz23_0 := blk_frozen BK162.out 0
       have hfz23_1 := blk_frozen BK162.out 1
       have hfz23_2 := blk_frozen BK162.out 2
       have hfz23_3 := blk_frozen BK162.out 3
       have hfz23_4 := blk_frozen BK162.out 4
       have hfz23_5 := blk_frozen BK162.out 5
       go_wp2_with (first | ((with_reducible refine gate_callee (f := 87) rfl ?_); refine goesL_ (some 38) rfl rfl Try.func87 (by kernel_rfl) rfl #[.int .i64 x163000_2] rfl (by (try simp only [List.map_toArray, List.map_cons, List.map_nil]); first | done | rfl | (simp only [List.length_drop, List.length_take]; rfl)) ?_; (with_reducible refine (datetime_yearDays.calls x163000_2 t163 _ A13.out).mono ?_); rintro e w24 ⟨rfl, hb⟩; refine ⟨_, rfl, ?_⟩; have n0_ := Aside0.mk (blk_below (g := gb159) (o := .cells #[.int .i64 0, .int .i64 0, .int .i64 0, .int .i64 0, .int .i64 0, .int .i64 0] 104 (0, 0)) (by (with_reducible repeat (first | refine blk_drewN ?_ _ | refine blk_drew ?_ | refine blk_alloc ?_ _)); exact BK159.out) hb); have n1_ := Aside0.mk (blk_below (g := gb162) (o := .cells #[.int .i64 x163000_2, .int .i64 1, .int .i64 0, .int .i64 (wrap64 (Int.tdiv (Int.tmod (wrap64 (a0 + (wrap64 (60 * a1)))) 86400) 3600)), .int .i64 (Int.tmod (wrap64 (Int.tdiv (Int.tmod (wrap64 (a0 + (wrap64 (60 * a1)))) 86400) 60)) 60), .int .i64 (Int.tmod (wrap64 (a0 + (wrap64 (60 * a1)))) 60)] 104 (0, 0)) (by (with_reducible repeat (first | refine blk_drewN ?_ _ | refine blk_drew ?_ | refine blk_alloc ?_ _)); exact BK162.out) hb); have n2_ := Aside0.mk (below_step (by repeat (first | (with_reducible first | exact HB.out | apply below_alloc | apply pw_below_drewN | apply below_drew1 | refine below_set ?_ GE159.out | refine below_set ?_ GE162.out) | exact HB.out)) hb); clear BK159; clear BK162; clear HB; have BK159 := n0_; have BK162 := n1_; have HB := n2_; clear n0_ n1_ n2_; (try clear hb); (try clear hb2); (try clear hk); (try clear hi)))
       go_loopg [7] k2 (fun kq v7 w' => ∃ (x7_3 : Int) (x163001_3 : Int), v7 = .int .i64 x7_3 ∧ Aside0 (datetime_Split.l1 kq x7_3 x163000_2 x163001_3 0 (wrap64 (Int.tdiv (Int.tmod (wrap64 (a0 + (wrap64 (60 * a1)))) 86400) 3600)) (Int.tmod (wrap64 (Int.tdiv (Int.tmod (wrap64 (a0 + (wrap64 (60 * a1)))) 86400) 60)) 60) (Int.tmod (wrap64 (a0 + (wrap64 (60 * a1)))) 60) = some (r1, r2, r3, r4, r5, r6, r7)) ∧ Aside0 (kq ≤ k2) ∧ Aside0 (w'.heap[gb159]? = some (.cells #[.int .i64 0, .int .i64 0, .int .i64 0, .int .i64 0, .int .i64 0, .int .i64 0] 104 (0, 0))) ∧ Aside0 (w'.heap[gb162]? = some (.cells #[.int .i64 x163000_2, .int .i64 x163001_3, .int .i64 0, .int .i64 (wrap64 (Int.tdiv (Int.tmod (wrap64 (a0 + (wrap64 (60 * a1)))) 86400) 3600)), .int .i64 (Int.tmod (wrap64 (Int.tdiv (Int.tmod (wrap64 (a0 + (wrap64 (60 * a1)))) 86400) 60)) 60), .int .i64 (Int.tmod (wrap64 (a0 + (wrap64 (60 * a1)))) 60)] 104 (0, 0))) ∧ Aside0 (Below w.heap.size w w'))
       case atStart => exact ⟨(x7_2), (1), (by first | rfl | (simp; done) | (simp [*]; done)), H', ⟨Nat.le_refl _⟩, ⟨by (with_reducible repeat (first | refine blk_drewN ?_ _ | refine blk_drew ?_ | refine blk_alloc ?_ _)); exact BK159.out⟩, ⟨by (with_reducible repeat (first | refine blk_drewN ?_ _ | refine blk_drew ?_ | refine blk_alloc ?_ _)); exact BK162.out⟩, ⟨by repeat (first | (with_reducible first | exact HB.out | apply below_alloc | apply pw_below_drewN | apply below_drew1 | refine below_set ?_ GE159.out | refine below_set ?_ GE162.out) | exact HB.out)⟩⟩
       case round =>
        clear H'
        try clear c1
        try clear c2
        try clear p2
        try clear c6
        try clear p6
        try clear c8
        try clear c11
        try clear c14
        try clear c14b0
        try clear c16
        try clear c22
        try clear hcz12_0
        try clear hcz12_1
        try clear hcz12_2
        try clear hcz12_3
        try clear hcz12_4
        try clear hcz12_5
        try clear hcz17_0
        try clear hcz17_1
        try clear hcz17_2
        try clear hcz17_3
        try clear hcz17_4
        try clear hcz17_5
        try clear hcz19_0
        try clear hcz19_1
        try clear hcz19_2
        try clear hcz19_3
        try clear hcz19_4
        try clear hcz19_5
        try clear hcz21_0
        try clear hcz21_1
        try clear hcz21_2
        try clear hcz21_3
        try clear hcz21_4
        try clear hcz21_5
        try clear hcz23_0
        try clear hcz23_1
        try clear hcz23_2
        try clear hcz23_3
        try clear hcz23_4
        try clear hcz23_5
        try clear hcz9_0
        try clear hcz9_1
        try clear hcz9_2
        try clear hcz9_3
        try clear hcz9_4
        try clear hcz9_5
        try clear hfz12_0
        try clear hfz12_1
        try clear hfz12_2
        try clear hfz12_3
        try clear hfz12_4
        try clear hfz12_5
        try clear hfz17_0
        try clear hfz17_1
        try clear hfz17_2
        try clear hfz17_3
        try clear hfz17_4
        try clear hfz17_5
        try clear hfz19_0
        try clear hfz19_1
        try clear hfz19_2
        try clear hfz19_3
        try clear hfz19_4
        try clear hfz19_5
        try clear hfz21_0
        try clear hfz21_1
        try clear hfz21_2
        try clear hfz21_3
        try clear hfz21_4
        try clear hfz21_5
        try clear hfz23_0
        try clear hfz23_1
        try clear hfz23_2
        try clear hfz23_3
        try clear hfz23_4
        try clear hfz23_5
        try clear hfz9_0
        try clear hfz9_1
        try clear hfz9_2
        try clear hfz9_3
        try clear hfz9_4
        try clear hfz9_5
        try clear p2
        try clear p6
        obtain ⟨x7_3, x163001_3, rfl, HA, HK3, BK159, BK162, HB⟩ := hrel
        cases gk with
        | zero => exact absurd HA.out (by simp [datetime_Split.l1])
        | succ k3 =>
         have H := HA.out
         clear HA
         simp only [datetime_Split.l1] at H
         replace H := Option.bind_eq_some_iff.mp H
         obtain ⟨t165, A250, H⟩ := H
         replace H : (if x7_3 ≥ t165 then ((datetime_monthDays.f x163000_2 x163001_3).bind fun t166 => (datetime_Split.l1 k3 (wrap64 (x7_3 - t166)) x163000_2 (wrap64 (x163001_3 + 1)) 0 (wrap64 (Int.tdiv (Int.tmod (wrap64 (a0 + (wrap64 (60 * a1)))) 86400) 3600)) (Int.tmod (wrap64 (Int.tdiv (Int.tmod (wrap64 (a0 + (wrap64 (60 * a1)))) 86400) 60)) 60) (Int.tmod (wrap64 (a0 + (wrap64 (60 * a1)))) 60))) else (some (x163000_2, x163001_3, wrap64 (x7_3 + 1), (wrap64 (Int.tdiv (Int.tmod (wrap64 (a0 + (wrap64 (60 * a1)))) 86400) 3600)), (Int.tmod (wrap64 (Int.tdiv (Int.tmod (wrap64 (a0 + (wrap64 (60 * a1)))) 86400) 60)) 60), (Int.tmod (wrap64 (a0 + (wrap64 (60 * a1)))) 60), 0))) = some (r1, r2, r3, r4, r5, r6, r7) := H
         have A25 := Aside0.mk A250
         clear A250
         by_cases c26 : x7_3 ≥ t165
         ·rw [if_pos c26] at H
          have c26b0 : decide (t165 ≤ x7_3) = true := decide_eq_true c26
          clear c26
          replace H := Option.bind_eq_some_iff.mp H
          obtain ⟨t166, A270, H⟩ := H
          replace H : (datetime_Split.l1 k3 (wrap64 (x7_3 - t166)) x163000_2 (wrap64 (x163001_3 + 1)) 0 (wrap64 (Int.tdiv (Int.tmod (wrap64 (a0 + (wrap64 (60 * a1)))) 86400) 3600)) (Int.tmod (wrap64 (Int.tdiv (Int.tmod (wrap64 (a0 + (wrap64 (60 * a1)))) 86400) 60)) 60) (Int.tmod (wrap64 (a0 + (wrap64 (60 * a1)))) 60)) = some (r1, r2, r3, r4, r5, r6, r7) := H
          have A27 := Aside0.mk A270
          clear A270
          have H' := Aside0.mk H
          clear H
          have hnb28 := NB162_159.out
          have hnc28 := NB159_162.out
          have hcz29_0 : wr.cell? ⟨gb162, 0, none⟩ = some (.int .i64 x163000_2) := (blk_cell BK162.out 0).trans rfl
          have hcz29_1 : wr.cell? ⟨gb162, 1, none⟩ = some (.int .i64 x163001_3) := (blk_cell BK162.out 1).trans rfl
          have hcz29_2 : wr.cell? ⟨gb162, 2, none⟩ = some (.int .i64 0) := (blk_cell BK162.out 2).trans rfl
          have hcz29_3 : wr.cell? ⟨gb162, 3, none⟩ = some (.int .i64 (wrap64 (Int.tdiv (Int.tmod (wrap64 (a0 + (wrap64 (60 * a1)))) 86400) 3600))) := (blk_cell BK162.out 3).trans rfl
          have hcz29_4 : wr.cell? ⟨gb162, 4, none⟩ = some (.int .i64 (Int.tmod (wrap64 (Int.tdiv (Int.tmod (wrap64 (a0 + (wrap64 (60 * a1)))) 86400) 60)) 60)) := (blk_cell BK162.out 4).trans rfl
          have hcz29_5 : wr.cell? ⟨gb162, 5, none⟩ = some (.int .i64 (Int.tmod (wrap64 (a0 + (wrap64 (60 * a1)))) 60)) := (blk_cell BK162.out 5).trans rfl
          have hfz29_0 := blk_frozen BK162.out 0
          have hfz29_1 := blk_frozen BK162.out 1
          have hfz29_2 := blk_frozen BK162.out 2
          have hfz29_3 := blk_frozen BK162.out 3
          have hfz29_4 := blk_frozen BK162.out 4
          have hfz29_5 := blk_frozen BK162.out 5
          go_wp2_with (first | ((with_reducible refine gate_callee (f := 88) rfl ?_); refine goesL_ (some 54) rfl rfl Try.func88 (by kernel_rfl) rfl #[.int .i64 x163000_2, .int .i64 x163001_3] rfl (by (try simp only [List.map_toArray, List.map_cons, List.map_nil]); first | done | rfl | (simp only [List.length_drop, List.length_take]; rfl)) ?_; (with_reducible refine (datetime_monthDays.calls x163000_2 x163001_3 t165 _ A25.out).mono ?_); rintro e w30 ⟨rfl, hb⟩; refine ⟨_, rfl, ?_⟩; have n0_ := Aside0.mk (blk_below (g := gb159) (o := .cells #[.int .i64 0, .int .i64 0, .int .i64 0, .int .i64 0, .int .i64 0, .int .i64 0] 104 (0, 0)) (by (with_reducible repeat (first | refine blk_drewN ?_ _ | refine blk_drew ?_ | refine blk_alloc ?_ _)); exact BK159.out) hb); have n1_ := Aside0.mk (blk_below (g := gb162) (o := .cells #[.int .i64 x163000_2, .int .i64 x163001_3, .int .i64 0, .int .i64 (wrap64 (Int.tdiv (Int.tmod (wrap64 (a0 + (wrap64 (60 * a1)))) 86400) 3600)), .int .i64 (Int.tmod (wrap64 (Int.tdiv (Int.tmod (wrap64 (a0 + (wrap64 (60 * a1)))) 86400) 60)) 60), .int .i64 (Int.tmod (wrap64 (a0 + (wrap64 (60 * a1)))) 60)] 104 (0, 0)) (by (with_reducible repeat (first | refine blk_drewN ?_ _ | refine blk_drew ?_ | refine blk_alloc ?_ _)); exact BK162.out) hb); have n2_ := Aside0.mk (below_step (by repeat (first | (with_reducible first | exact HB.out | apply below_alloc | apply pw_below_drewN | apply below_drew1 | refine below_set ?_ GE159.out | refine below_set ?_ GE162.out) | exact HB.out)) hb); clear BK159; clear BK162; clear HB; have BK159 := n0_; have BK162 := n1_; have HB := n2_; clear n0_ n1_ n2_; (try clear hb); (try clear hb2); (try clear hk); (try clear hi); have hcz31_0 : w30.cell? ⟨gb162, 0, none⟩ = some (.int .i64 x163000_2) := (blk_cell BK162.out 0).trans rfl; have hcz31_1 : w30.cell? ⟨gb162, 1, none⟩ = some (.int .i64 x163001_3) := (blk_cell BK162.out 1).trans rfl; have hcz31_2 : w30.cell? ⟨gb162, 2, none⟩ = some (.int .i64 0) := (blk_cell BK162.out 2).trans rfl; have hcz31_3 : w30.cell? ⟨gb162, 3, none⟩ = some (.int .i64 (wrap64 (Int.tdiv (Int.tmod (wrap64 (a0 + (wrap64 (60 * a1)))) 86400) 3600))) := (blk_cell BK162.out 3).trans rfl; have hcz31_4 : w30.cell? ⟨gb162, 4, none⟩ = some (.int .i64 (Int.tmod (wrap64 (Int.tdiv (Int.tmod (wrap64 (a0 + (wrap64 (60 * a1)))) 86400) 60)) 60)) := (blk_cell BK162.out 4).trans rfl; have hcz31_5 : w30.cell? ⟨gb162, 5, none⟩ = some (.int .i64 (Int.tmod (wrap64 (a0 + (wrap64 (60 * a1)))) 60)) := (blk_cell BK162.out 5).trans rfl; have hfz31_0 := blk_frozen BK162.out 0; have hfz31_1 := blk_frozen BK162.out 1; have hfz31_2 := blk_frozen BK162.out 2; have hfz31_3 := blk_frozen BK162.out 3; have hfz31_4 := blk_frozen BK162.out 4; have hfz31_5 := blk_frozen BK162.out 5) | ((with_reducible refine gate_callee (f := 88) rfl ?_); refine goesL_ (some 61) rfl rfl Try.func88 (by kernel_rfl) rfl #[.int .i64 x163000_2, .int .i64 x163001_3] rfl (by (try simp only [List.map_toArray, List.map_cons, List.map_nil]); first | done | rfl | (simp only [List.length_drop, List.length_take]; rfl)) ?_; (with_reducible refine (datetime_monthDays.calls x163000_2 x163001_3 t166 _ A27.out).mono ?_); rintro e w32 ⟨rfl, hb⟩; refine ⟨_, rfl, ?_⟩; have n0_ := Aside0.mk (blk_below (g := gb159) (o := .cells #[.int .i64 0, .int .i64 0, .int .i64 0, .int .i64 0, .int .i64 0, .int .i64 0] 104 (0, 0)) (by (with_reducible repeat (first | refine blk_drewN ?_ _ | refine blk_drew ?_ | refine blk_alloc ?_ _)); exact BK159.out) hb); have n1_ := Aside0.mk (blk_below (g := gb162) (o := .cells #[.int .i64 x163000_2, .int .i64 x163001_3, .int .i64 0, .int .i64 (wrap64 (Int.tdiv (Int.tmod (wrap64 (a0 + (wrap64 (60 * a1)))) 86400) 3600)), .int .i64 (Int.tmod (wrap64 (Int.tdiv (Int.tmod (wrap64 (a0 + (wrap64 (60 * a1)))) 86400) 60)) 60), .int .i64 (Int.tmod (wrap64 (a0 + (wrap64 (60 * a1)))) 60)] 104 (0, 0)) (by (with_reducible repeat (first | refine blk_drewN ?_ _ | refine blk_drew ?_ | refine blk_alloc ?_ _)); exact BK162.out) hb); have n2_ := Aside0.mk (below_step (by repeat (first | (with_reducible first | exact HB.out | apply below_alloc | apply pw_below_drewN | apply below_drew1 | refine below_set ?_ GE159.out | refine below_set ?_ GE162.out) | exact HB.out)) hb); clear BK159; clear BK162; clear HB; have BK159 := n0_; have BK162 := n1_; have HB := n2_; clear n0_ n1_ n2_; (try clear hb); (try clear hb2); (try clear hk); (try clear hi); have hcz33_0 : w32.cell? ⟨gb162, 0, none⟩ = some (.int .i64 x163000_2) := (blk_cell BK162.out 0).trans rfl; have hcz33_1 : w32.cell? ⟨gb162, 1, none⟩ = some (.int .i64 x163001_3) := (blk_cell BK162.out 1).trans rfl; have hcz33_2 : w32.cell? ⟨gb162, 2, none⟩ = some (.int .i64 0) := (blk_cell BK162.out 2).trans rfl; have hcz33_3 : w32.cell? ⟨gb162, 3, none⟩ = some (.int .i64 (wrap64 (Int.tdiv (Int.tmod (wrap64 (a0 + (wrap64 (60 * a1)))) 86400) 3600))) := (blk_cell BK162.out 3).trans rfl; have hcz33_4 : w32.cell? ⟨gb162, 4, none⟩ = some (.int .i64 (Int.tmod (wrap64 (Int.tdiv (Int.tmod (wrap64 (a0 + (wrap64 (60 * a1)))) 86400) 60)) 60)) := (blk_cell BK162.out 4).trans rfl; have hcz33_5 : w32.cell? ⟨gb162, 5, none⟩ = some (.int .i64 (Int.tmod (wrap64 (a0 + (wrap64 (60 * a1)))) 60)) := (blk_cell BK162.out 5).trans rfl; have hfz33_0 := blk_frozen BK162.out 0; have hfz33_1 := blk_frozen BK162.out 1; have hfz33_2 := blk_frozen BK162.out 2; have hfz33_3 := blk_frozen BK162.out 3; have hfz33_4 := blk_frozen BK162.out 4; have hfz33_5 := blk_frozen BK162.out 5))
          go_roundg k3
          case measure => have := HJ2.out; have := HK2.out; have := HK3.out; omega
          case rel => exact ⟨(wrap64 (x7_3 - t166)), (wrap64 (x163001_3 + 1)), (by first | rfl | (simp; done) | (simp [*]; done)), H', ⟨by have := HJ2.out; have := HK2.out; have := HK3.out; omega⟩, ⟨by (with_reducible repeat (first | refine blk_drewN ?_ _ | refine blk_drew ?_ | refine blk_alloc ?_ _)); refine blk_far ?_ NB159_162.out _; (with_reducible repeat (first | refine blk_drewN ?_ _ | refine blk_drew ?_ | refine blk_alloc ?_ _)); exact BK159.out⟩, ⟨by (with_reducible repeat (first | refine blk_drewN ?_ _ | refine blk_drew ?_ | refine blk_alloc ?_ _)); refine blk_put (cs := #[.int .i64 x163000_2, .int .i64 x163001_3, .int .i64 0, .int .i64 (wrap64 (Int.tdiv (Int.tmod (wrap64 (a0 + (wrap64 (60 * a1)))) 86400) 3600)), .int .i64 (Int.tmod (wrap64 (Int.tdiv (Int.tmod (wrap64 (a0 + (wrap64 (60 * a1)))) 86400) 60)) 60), .int .i64 (Int.tmod (wrap64 (a0 + (wrap64 (60 * a1)))) 60)]) ?_ 1 _ rfl; (with_reducible repeat (first | refine blk_drewN ?_ _ | refine blk_drew ?_ | refine blk_alloc ?_ _)); exact BK162.out⟩, ⟨by repeat (first | (with_reducible first | exact HB.out | apply below_alloc | apply pw_below_drewN | apply below_drew1 | refine below_set ?_ GE159.out | refine below_set ?_ GE162.out) | exact HB.out)⟩⟩
         ·rw [if_neg c26] at H
          have c26b0 : decide (t165 ≤ x7_3) = false := decide_eq_false c26
          clear c26
          simp only [Option.some.injEq, Prod.mk.injEq] at H
          obtain ⟨rfl, rfl, rfl, rfl, rfl, rfl, rfl⟩ := H
          have hnb34 := NB162_159.out
          have hnc34 := NB159_162.out
          have hcz35_0 : wr.cell? ⟨gb162, 0, none⟩ = some (.int .i64 x163000_2) := (blk_cell BK162.out 0).trans rfl
          have hcz35_1 : wr.cell? ⟨gb162, 1, none⟩ = some (.int .i64 x163001_3) := (blk_cell BK162.out 1).trans rfl
          have hcz35_2 : wr.cell? ⟨gb162, 2, none⟩ = some (.int .i64 0) := (blk_cell BK162.out 2).trans rfl
          have hcz35_3 : wr.cell? ⟨gb162, 3, none⟩ = some (.int .i64 (wrap64 (Int.tdiv (Int.tmod (wrap64 (a0 + (wrap64 (60 * a1)))) 86400) 3600))) := (blk_cell BK162.out 3).trans rfl
          have hcz35_4 : wr.cell? ⟨gb162, 4, none⟩ = some (.int .i64 (Int.tmod (wrap64 (Int.tdiv (Int.tmod (wrap64 (a0 + (wrap64 (60 * a1)))) 86400) 60)) 60)) := (blk_cell BK162.out 4).trans rfl
          have hcz35_5 : wr.cell? ⟨gb162, 5, none⟩ = some (.int .i64 (Int.tmod (wrap64 (a0 + (wrap64 (60 * a1)))) 60)) := (blk_cell BK162.out 5).trans rfl
          have hfz35_0 := blk_frozen BK162.out 0
          have hfz35_1 := blk_frozen BK162.out 1
          have hfz35_2 := blk_frozen BK162.out 2
          have hfz35_3 := blk_frozen BK162.out 3
          have hfz35_4 := blk_frozen BK162.out 4
          have hfz35_5 := blk_frozen BK162.out 5
          go_wp2_with (first | ((with_reducible refine gate_callee (f := 88) rfl ?_); refine goesL_ (some 54) rfl rfl Try.func88 (by kernel_rfl) rfl #[.int .i64 x163000_2, .int .i64 x163001_3] rfl (by (try simp only [List.map_toArray, List.map_cons, List.map_nil]); first | done | rfl | (simp only [List.length_drop, List.length_take]; rfl)) ?_; (with_reducible refine (datetime_monthDays.calls x163000_2 x163001_3 t165 _ A25.out).mono ?_); rintro e w36 ⟨rfl, hb⟩; refine ⟨_, rfl, ?_⟩; have n0_ := Aside0.mk (blk_below (g := gb159) (o := .cells #[.int .i64 0, .int .i64 0, .int .i64 0, .int .i64 0, .int .i64 0, .int .i64 0] 104 (0, 0)) (by (with_reducible repeat (first | refine blk_drewN ?_ _ | refine blk_drew ?_ | refine blk_alloc ?_ _)); exact BK159.out) hb); have n1_ := Aside0.mk (blk_below (g := gb162) (o := .cells #[.int .i64 x163000_2, .int .i64 x163001_3, .int .i64 0, .int .i64 (wrap64 (Int.tdiv (Int.tmod (wrap64 (a0 + (wrap64 (60 * a1)))) 86400) 3600)), .int .i64 (Int.tmod (wrap64 (Int.tdiv (Int.tmod (wrap64 (a0 + (wrap64 (60 * a1)))) 86400) 60)) 60), .int .i64 (Int.tmod (wrap64 (a0 + (wrap64 (60 * a1)))) 60)] 104 (0, 0)) (by (with_reducible repeat (first | refine blk_drewN ?_ _ | refine blk_drew ?_ | refine blk_alloc ?_ _)); exact BK162.out) hb); have n2_ := Aside0.mk (below_step (by repeat (first | (with_reducible first | exact HB.out | apply below_alloc | apply pw_below_drewN | apply below_drew1 | refine below_set ?_ GE159.out | refine below_set ?_ GE162.out) | exact HB.out)) hb); clear BK159; clear BK162; clear HB; have BK159 := n0_; have BK162 := n1_; have HB := n2_; clear n0_ n1_ n2_; (try clear hb); (try clear hb2); (try clear hk); (try clear hi); have hcz37_0 : w36.cell? ⟨gb162, 0, none⟩ = some (.int .i64 x163000_2) := (blk_cell BK162.out 0).trans rfl; have hcz37_1 : w36.cell? ⟨gb162, 1, none⟩ = some (.int .i64 x163001_3) := (blk_cell BK162.out 1).trans rfl; have hcz37_2 : w36.cell? ⟨gb162, 2, none⟩ = some (.int .i64 0) := (blk_cell BK162.out 2).trans rfl; have hcz37_3 : w36.cell? ⟨gb162, 3, none⟩ = some (.int .i64 (wrap64 (Int.tdiv (Int.tmod (wrap64 (a0 + (wrap64 (60 * a1)))) 86400) 3600))) := (blk_cell BK162.out 3).trans rfl; have hcz37_4 : w36.cell? ⟨gb162, 4, none⟩ = some (.int .i64 (Int.tmod (wrap64 (Int.tdiv (Int.tmod (wrap64 (a0 + (wrap64 (60 * a1)))) 86400) 60)) 60)) := (blk_cell BK162.out 4).trans rfl; have hcz37_5 : w36.cell? ⟨gb162, 5, none⟩ = some (.int .i64 (Int.tmod (wrap64 (a0 + (wrap64 (60 * a1)))) 60)) := (blk_cell BK162.out 5).trans rfl; have hfz37_0 := blk_frozen BK162.out 0; have hfz37_1 := blk_frozen BK162.out 1; have hfz37_2 := blk_frozen BK162.out 2; have hfz37_3 := blk_frozen BK162.out 3; have hfz37_4 := blk_frozen BK162.out 4; have hfz37_5 := blk_frozen BK162.out 5; have hcz38_0 : w36.cell? ⟨gb159, 0, none⟩ = some (.int .i64 0) := (blk_cell BK159.out 0).trans rfl; have hcz38_1 : w36.cell? ⟨gb159, 1, none⟩ = some (.int .i64 0) := (blk_cell BK159.out 1).trans rfl; have hcz38_2 : w36.cell? ⟨gb159, 2, none⟩ = some (.int .i64 0) := (blk_cell BK159.out 2).trans rfl; have hcz38_3 : w36.cell? ⟨gb159, 3, none⟩ = some (.int .i64 0) := (blk_cell BK159.out 3).trans rfl; have hcz38_4 : w36.cell? ⟨gb159, 4, none⟩ = some (.int .i64 0) := (blk_cell BK159.out 4).trans rfl; have hcz38_5 : w36.cell? ⟨gb159, 5, none⟩ = some (.int .i64 0) := (blk_cell BK159.out 5).trans rfl; have hfz38_0 := blk_frozen BK159.out 0; have hfz38_1 := blk_frozen BK159.out 1; have hfz38_2 := blk_frozen BK159.out 2; have hfz38_3 := blk_frozen BK159.out 3; have hfz38_4 := blk_frozen BK159.out 4; have hfz38_5 := blk_frozen BK159.out 5))
          refine bodyPost_ret (results_ct rfl _ _ gb159 104 #[.int .i64 x163000_2, .int .i64 x163001_3, .int .i64 (wrap64 (x7_3 + 1)), .int .i64 (wrap64 (Int.tdiv (Int.tmod (wrap64 (a0 + (wrap64 (60 * a1)))) 86400) 3600)), .int .i64 (Int.tmod (wrap64 (Int.tdiv (Int.tmod (wrap64 (a0 + (wrap64 (60 * a1)))) 86400) 60)) 60), .int .i64 (Int.tmod (wrap64 (a0 + (wrap64 (60 * a1)))) 60)] (0, 0) _ rfl (by (with_reducible repeat (first | refine blk_drewN ?_ _ | refine blk_drew ?_ | refine blk_alloc ?_ _)); refine blk_put (cs := #[.int .i64 x163000_2, .int .i64 x163001_3, .int .i64 (wrap64 (x7_3 + 1)), .int .i64 (wrap64 (Int.tdiv (Int.tmod (wrap64 (a0 + (wrap64 (60 * a1)))) 86400) 3600)), .int .i64 (Int.tmod (wrap64 (Int.tdiv (Int.tmod (wrap64 (a0 + (wrap64 (60 * a1)))) 86400) 60)) 60), .int .i64 0]) ?_ 5 _ rfl; (with_reducible repeat (first | refine blk_drewN ?_ _ | refine blk_drew ?_ | refine blk_alloc ?_ _)); refine blk_put (cs := #[.int .i64 x163000_2, .int .i64 x163001_3, .int .i64 (wrap64 (x7_3 + 1)), .int .i64 (wrap64 (Int.tdiv (Int.tmod (wrap64 (a0 + (wrap64 (60 * a1)))) 86400) 3600)), .int .i64 0, .int .i64 0]) ?_ 4 _ rfl; (with_reducible repeat (first | refine blk_drewN ?_ _ | refine blk_drew ?_ | refine blk_alloc ?_ _)); refine blk_put (cs := #[.int .i64 x163000_2, .int .i64 x163001_3, .int .i64 (wrap64 (x7_3 + 1)), .int .i64 0, .int .i64 0, .int .i64 0]) ?_ 3 _ rfl; (with_reducible repeat (first | refine blk_drewN ?_ _ | refine blk_drew ?_ | refine blk_alloc ?_ _)); refine blk_put (cs := #[.int .i64 x163000_2, .int .i64 x163001_3, .int .i64 0, .int .i64 0, .int .i64 0, .int .i64 0]) ?_ 2 _ rfl; (with_reducible repeat (first | refine blk_drewN ?_ _ | refine blk_drew ?_ | refine blk_alloc ?_ _)); refine blk_put (cs := #[.int .i64 x163000_2, .int .i64 0, .int .i64 0, .int .i64 0, .int .i64 0, .int .i64 0]) ?_ 1 _ rfl; (with_reducible repeat (first | refine blk_drewN ?_ _ | refine blk_drew ?_ | refine blk_alloc ?_ _)); refine blk_put (cs := #[.int .i64 0, .int .i64 0, .int .i64 0, .int .i64 0, .int .i64 0, .int .i64 0]) ?_ 0 _ rfl; (with_reducible repeat (first | refine blk_drewN ?_ _ | refine blk_drew ?_ | refine blk_alloc ?_ _)); refine blk_far ?_ NB159_162.out _; (with_reducible repeat (first | refine blk_drewN ?_ _ | refine blk_drew ?_ | refine blk_alloc ?_ _)); exact BK159.out) Try.underlying104 rfl (by kernel_rfl)) rfl ?_
          exact ⟨by first | rfl | (simp [errW_none, errW_some] <;> rfl) | (simp [*, errW_none, errW_some] <;> rfl), by repeat (first | (with_reducible first | exact HB.out | apply below_alloc | apply pw_below_drewN | apply below_drew1 | refine below_set ?_ GE159.out | refine below_set ?_ GE162.out) | exact HB.out)⟩

/-! ### datetime_isQuarter: function 67 -/
def datetime_isQuarter.f (a0 : Int) : Option (Bool) := if (Int.tmod a0 15) = 0 then (if a0 ≥ (-720) then (some (decide (a0 ≤ 780))) else (some false)) else (some false)
set_option maxHeartbeats 8000000 in
set_option maxRecDepth 100000 in
theorem datetime_isQuarter.calls (a0 : Int) (r : Bool) (w : World) (h : datetime_isQuarter.f a0 = some r) :
  Calls Try.prog 67 #[.int .i64 a0] w fun e w' => e = .returned (.bool r) ∧ Drawn0 w w' := by
 have H : (if (Int.tmod a0 15) = 0 then (if a0 ≥ (-720) then (some (decide (a0 ≤ 780))) else (some false)) else (some false)) = some r := h
 clear h
 by_cases c2 : (Int.tmod a0 15) = 0
 ·rw [if_pos c2] at H
  have c2b0 : ((Int.tmod a0 15) == 0) = true := beq_iff_eq.mpr c2
  have c2b1 : ((Int.tmod a0 15) != 0) = false := bne_eq_false_iff_eq.mpr c2
  clear c2
  by_cases c3 : a0 ≥ (-720)
  ·rw [if_pos c3] at H
   have c3b0 : decide ((-720) ≤ a0) = true := decide_eq_true c3
   clear c3
   obtain rfl := Option.some.inj H
   go_enter Try.func67, Try.ntmps67
   go_wp2
   go_ret
   exact ⟨by first | rfl | (simp; done) | (simp [*]; done), by repeat (first | exact Drawn0.refl _ | apply Drawn0.step)⟩
  ·rw [if_neg c3] at H
   have c3b0 : decide ((-720) ≤ a0) = false := decide_eq_false c3
   clear c3
   obtain rfl := Option.some.inj H
   go_enter Try.func67, Try.ntmps67
   go_wp2
   go_ret
   exact ⟨by first | rfl | (simp; done) | (simp [*]; done), by repeat (first | exact Drawn0.refl _ | apply Drawn0.step)⟩
 ·rw [if_neg c2] at H
  have c2b0 : ((Int.tmod a0 15) == 0) = false := beq_eq_false_iff_ne.mpr c2
  have c2b1 : ((Int.tmod a0 15) != 0) = true := bne_iff_ne.mpr c2
  obtain rfl := Option.some.inj H
  go_enter Try.func67, Try.ntmps67
  go_wp2
  go_ret
  exact ⟨by first | rfl | (simp; done) | (simp [*]; done), by repeat (first | exact Drawn0.refl _ | apply Drawn0.step)⟩

/-! ### datetime_Record: function 46 -/
def datetime_Record.f (k : Nat) (a0 : Int) (a1 : Int) : Option (ByteArray × Int) := (datetime_Split.f k a0 a1).bind fun bt167 => (if bt167.2.2.2.2.2.2 = 0 then ((datetime_isQuarter.f a1).bind fun t175 => (if t175 = true then (some (strOfNums (([(wrap64 (bt167.1 - 1900)) % 256, (bt167.2.1) % 256, (bt167.2.2.1) % 256, (bt167.2.2.2.1) % 256, (bt167.2.2.2.2.1) % 256, (bt167.2.2.2.2.2.1) % 256, (IntKind.i8.wrap (wrap64 (Int.tdiv a1 15))) % 256] : List Int)), 0)) else (some ((⟨#[]⟩ : ByteArray), 2)))) else (some ((⟨#[]⟩ : ByteArray), 2)))
theorem datetime_Record.mono : ∀ a0 a1 k, LeO (datetime_Record.f k a0 a1) (datetime_Record.f (k + 1) a0 a1) := by
 intro a0 a1 k
 unfold datetime_Record.f
 repeat' first
   | (with_reducible exact datetime_Split.mono _ _ _)
   | (with_reducible exact LeO.refl _)
   | (with_reducible exact LeO.none _)
   | (with_reducible refine LeO.ite ?_ ?_)
   | (with_reducible refine LeO.bind ?_ (fun _ => ?_))
   | exact datetime_Split.mono _ _ _
   | exact LeO.none _
   | refine LeO.ite ?_ ?_
   | refine LeO.bind ?_ (fun _ => ?_)
set_option maxHeartbeats 8000000 in
set_option maxRecDepth 100000 in
theorem datetime_Record.calls (k : Nat) (a0 : Int) (a1 : Int) (r1 : ByteArray) (r2 : Int) (w : World) (h : datetime_Record.f k a0 a1 = some (r1, r2)) :
  Calls Try.prog 46 #[.int .i64 a0, .int .i64 a1] w fun e w' => e = .returned (.tuple #[.string r1, .int .i64 r2]) ∧ Below w.heap.size w w' := by
 have hu104 := Try.underlying104
 have HB := Aside0.mk (Below.refl w.heap.size w)
 have H : ((datetime_Split.f k a0 a1).bind fun bt167 => (if bt167.2.2.2.2.2.2 = 0 then ((datetime_isQuarter.f a1).bind fun t175 => (if t175 = true then (some (strOfNums (([(wrap64 (bt167.1 - 1900)) % 256, (bt167.2.1) % 256, (bt167.2.2.1) % 256, (bt167.2.2.2.1) % 256, (bt167.2.2.2.2.1) % 256, (bt167.2.2.2.2.2.1) % 256, (IntKind.i8.wrap (wrap64 (Int.tdiv a1 15))) % 256] : List Int)), 0)) else (some ((⟨#[]⟩ : ByteArray), 2)))) else (some ((⟨#[]⟩ : ByteArray), 2)))) = some (r1, r2) := h
 clear h
 replace H := Option.bind_eq_some_iff.mp H
 obtain ⟨⟨t167, t168, t169, t170, t171, t172, t173⟩, A30, H⟩ := H
 replace H : (if t173 = 0 then ((datetime_isQuarter.f a1).bind fun t175 => (if t175 = true then (some (strOfNums (([(wrap64 (t167 - 1900)) % 256, (t168) % 256, (t169) % 256, (t170) % 256, (t171) % 256, (t172) % 256, (IntKind.i8.wrap (wrap64 (Int.tdiv a1 15))) % 256] : List Int)), 0)) else (some ((⟨#[]⟩ : ByteArray), 2)))) else (some ((⟨#[]⟩ : ByteArray), 2))) = some (r1, r2) := H
 have A3 := Aside0.mk A30
 clear A30
 by_cases c4 : t173 = 0
 ·rw [if_pos c4] at H
  have c4b0 : (t173 == 0) = true := beq_iff_eq.mpr c4
  have c4b1 : (t173 != 0) = false := bne_eq_false_iff_eq.mpr c4
  clear c4
  replace H := Option.bind_eq_some_iff.mp H
  obtain ⟨t175, A50, H⟩ := H
  replace H : (if t175 = true then (some (strOfNums (([(wrap64 (t167 - 1900)) % 256, (t168) % 256, (t169) % 256, (t170) % 256, (t171) % 256, (t172) % 256, (IntKind.i8.wrap (wrap64 (Int.tdiv a1 15))) % 256] : List Int)), 0)) else (some ((⟨#[]⟩ : ByteArray), 2))) = some (r1, r2) := H
  have A5 := Aside0.mk A50
  clear A50
  by_cases c6 : t175 = true
  ·subst c6
   have H1 : (some (strOfNums (([(wrap64 (t167 - 1900)) % 256, (t168) % 256, (t169) % 256, (t170) % 256, (t171) % 256, (t172) % 256, (IntKind.i8.wrap (wrap64 (Int.tdiv a1 15))) % 256] : List Int)), 0)) = some (r1, r2) := by rw [if_pos rfl] at H; exact H
   clear H
   have H := H1
   clear H1
   obtain ⟨y176, hy176⟩ : ∃ y_ : List Int, y_ = (([(wrap64 (t167 - 1900)) % 256, (t168) % 256, (t169) % 256, (t170) % 256, (t171) % 256, (t172) % 256, (IntKind.i8.wrap (wrap64 (Int.tdiv a1 15))) % 256] : List Int)) := ⟨_, rfl⟩
   replace H : (some (strOfNums y176, 0)) = some (r1, r2) := by first | (rw [hy176]; with_reducible exact H) | (have H2_ := (Option.bind_some _ _).symm.trans H; rw [hy176]; with_reducible exact H2_) | (have H2_ := (Option.bind_some _ _).symm.trans H; with_reducible exact H2_) | with_reducible exact H | (rw [hy176]; exact H) | exact H
   have Ny176 := Aside0.mk hy176
   clear hy176
   simp only [Option.some.injEq, Prod.mk.injEq] at H
   obtain ⟨rfl, rfl⟩ := H
   go_enter Try.func46, Try.ntmps46
   go_wp2_with (first | ((with_reducible refine gate_callee (f := 66) rfl ?_); refine goesL_ (some 11) rfl rfl Try.func66 (by kernel_rfl) rfl #[.int .i64 a0, .int .i64 a1] rfl (by (try simp only [List.map_toArray, List.map_cons, List.map_nil]); first | done | rfl | (simp only [List.length_drop, List.length_take]; rfl)) ?_; (with_reducible refine (datetime_Split.calls k a0 a1 t167 t168 t169 t170 t171 t172 t173 _ A3.out).mono ?_); rintro e w7 ⟨rfl, hb⟩; refine ⟨_, rfl, ?_⟩; have n0_ := Aside0.mk (below_step (by repeat (first | (with_reducible first | exact HB.out | apply below_alloc | apply pw_below_drewN | apply below_drew1) | exact HB.out)) hb); clear HB; have HB := n0_; clear n0_; (try clear hb); (try clear hb2); (try clear hk); (try clear hi)) | ((with_reducible refine gate_dst (N := 6) rfl ?_); refine box_event ?hg (N := 6) ?hd (cs := #[.int .i64 0, .int .i64 0, .int .i64 0, .int .i64 0, .int .i64 0, .int .i64 0]) (t := 104) ?hr ?_; (case hd => rfl); (case hg => rfl); (case hr => first | (go_simp; done) | (go_simp; rfl)); intro gb174 hg w8 hbox hb; have n0_ := Aside0.mk (below_step (by repeat (first | (with_reducible first | exact HB.out | apply below_alloc | apply pw_below_drewN | apply below_drew1) | exact HB.out)) hb); have n1_ := Aside0.mk (hbox); have n2_ := Aside0.mk ((by rw [hg]; exact (below_size (by repeat (first | (with_reducible first | exact HB.out | apply below_alloc | apply pw_below_drewN | apply below_drew1) | exact HB.out))) : w.heap.size ≤ gb174)); have n3_ := Aside0.mk ((by rw [hg]; exact (below_size (by repeat (first | (with_reducible first | exact HB.out | apply below_alloc | apply pw_below_drewN | apply below_drew1) | exact HB.out))) : w.heap.size ≤ gb174)); clear HB; have HB := n0_; have BK174 := n1_; have GW174 := n2_; have GE174 := n3_; clear n0_ n1_ n2_ n3_; clear hb hbox hg; have hcz9_0 : w8.cell? ⟨gb174, 0, none⟩ = some (.int .i64 0) := (blk_cell BK174.out 0).trans rfl; have hcz9_1 : w8.cell? ⟨gb174, 1, none⟩ = some (.int .i64 0) := (blk_cell BK174.out 1).trans rfl; have hcz9_2 : w8.cell? ⟨gb174, 2, none⟩ = some (.int .i64 0) := (blk_cell BK174.out 2).trans rfl; have hcz9_3 : w8.cell? ⟨gb174, 3, none⟩ = some (.int .i64 0) := (blk_cell BK174.out 3).trans rfl; have hcz9_4 : w8.cell? ⟨gb174, 4, none⟩ = some (.int .i64 0) := (blk_cell BK174.out 4).trans rfl; have hcz9_5 : w8.cell? ⟨gb174, 5, none⟩ = some (.int .i64 0) := (blk_cell BK174.out 5).trans rfl; have hfz9_0 := blk_frozen BK174.out 0; have hfz9_1 := blk_frozen BK174.out 1; have hfz9_2 := blk_frozen BK174.out 2; have hfz9_3 := blk_frozen BK174.out 3; have hfz9_4 := blk_frozen BK174.out 4; have hfz9_5 := blk_frozen BK174.out 5) | (go_at_call 67; (with_reducible refine (datetime_isQuarter.calls a1 true _ A5.out).mono ?_); rintro e w' ⟨rfl, ⟨nd, rfl⟩⟩) | ((with_reducible refine gate_dst (N := 44) rfl ?_); refine Kd.R_lit (Kd.int .u8) _ 5 ?hg (N := 44) ?hd (xs := ([(wrap64 (t167 - 1900)) % 256, (t168) % 256, (t169) % 256, (t170) % 256, (t171) % 256, (t172) % 256, (IntKind.i8.wrap (wrap64 (Int.tdiv a1 15))) % 256] : List Int)) (inner := [.int .u8 ((wrap64 (t167 - 1900)) % 256), .int .u8 ((t168) % 256), .int .u8 ((t169) % 256), .int .u8 ((t170) % 256), .int .u8 ((t171) % 256), .int .u8 ((t172) % 256), .int .u8 ((IntKind.i8.wrap (wrap64 (Int.tdiv a1 15))) % 256)]) (ok := fun _ => True) (okp := fun _ => True) ?hr ?hp (fun _ hk => hk) trivial (Below.refl _ _) (Nat.le_refl _) (by simp) ?_; (case hd => rfl); (case hg => rfl); (case hr => first | (go_simp; done) | (go_simp; rfl)); (case hp => exact (Reps.one (show Kd.M (Kd.int .u8) _ _ _ ((wrap64 (t167 - 1900)) % 256) [.int .u8 ((wrap64 (t167 - 1900)) % 256)] from rfl) (Reps.one (show Kd.M (Kd.int .u8) _ _ _ ((t168) % 256) [.int .u8 ((t168) % 256)] from rfl) (Reps.one (show Kd.M (Kd.int .u8) _ _ _ ((t169) % 256) [.int .u8 ((t169) % 256)] from rfl) (Reps.one (show Kd.M (Kd.int .u8) _ _ _ ((t170) % 256) [.int .u8 ((t170) % 256)] from rfl) (Reps.one (show Kd.M (Kd.int .u8) _ _ _ ((t171) % 256) [.int .u8 ((t171) % 256)] from rfl) (Reps.one (show Kd.M (Kd.int .u8) _ _ _ ((t172) % 256) [.int .u8 ((t172) % 256)] from rfl) (Reps.one (show Kd.M (Kd.int .u8) _ _ _ ((IntKind.i8.wrap (wrap64 (Int.tdiv a1 15))) % 256) [.int .u8 ((IntKind.i8.wrap (wrap64 (Int.tdiv a1 15))) % 256)] from rfl) (Reps.none _ _))))))))); intro v177 w10 ho11 hb hg_ hnew_; clear hg_ hnew_; (first | rw [← Ny176.out] at ho11 | (simp only [Int.reduceToNat] at ho11; rw [← Ny176.out] at ho11)); have n0_ := Aside0.mk (Kd.R_lower ho11 (below_size (by repeat (first | (with_reducible first | exact HB.out | apply below_alloc | apply pw_below_drewN | apply below_drew1 | refine below_set ?_ GE174.out) | exact HB.out)))); have n1_ := Aside0.mk (blk_below (g := gb174) (o := .cells #[.int .i64 t167, .int .i64 t168, .int .i64 t169, .int .i64 t170, .int .i64 t171, .int .i64 t172] 104 (0, 0)) (by (with_reducible repeat (first | refine blk_drewN ?_ _ | refine blk_drew ?_ | refine blk_alloc ?_ _)); refine blk_put (cs := #[.int .i64 t167, .int .i64 t168, .int .i64 t169, .int .i64 t170, .int .i64 t171, .int .i64 0]) ?_ 5 _ rfl; (with_reducible repeat (first | refine blk_drewN ?_ _ | refine blk_drew ?_ | refine blk_alloc ?_ _)); refine blk_put (cs := #[.int .i64 t167, .int .i64 t168, .int .i64 t169, .int .i64 t170, .int .i64 0, .int .i64 0]) ?_ 4 _ rfl; (with_reducible repeat (first | refine blk_drewN ?_ _ | refine blk_drew ?_ | refine blk_alloc ?_ _)); refine blk_put (cs := #[.int .i64 t167, .int .i64 t168, .int .i64 t169, .int .i64 0, .int .i64 0, .int .i64 0]) ?_ 3 _ rfl; (with_reducible repeat (first | refine blk_drewN ?_ _ | refine blk_drew ?_ | refine blk_alloc ?_ _)); refine blk_put (cs := #[.int .i64 t167, .int .i64 t168, .int .i64 0, .int .i64 0, .int .i64 0, .int .i64 0]) ?_ 2 _ rfl; (with_reducible repeat (first | refine blk_drewN ?_ _ | refine blk_drew ?_ | refine blk_alloc ?_ _)); refine blk_put (cs := #[.int .i64 t167, .int .i64 0, .int .i64 0, .int .i64 0, .int .i64 0, .int .i64 0]) ?_ 1 _ rfl; (with_reducible repeat (first | refine blk_drewN ?_ _ | refine blk_drew ?_ | refine blk_alloc ?_ _)); refine blk_put (cs := #[.int .i64 0, .int .i64 0, .int .i64 0, .int .i64 0, .int .i64 0, .int .i64 0]) ?_ 0 _ rfl; (with_reducible repeat (first | refine blk_drewN ?_ _ | refine blk_drew ?_ | refine blk_alloc ?_ _)); exact BK174.out) hb); have n2_ := Aside0.mk (below_step (by repeat (first | (with_reducible first | exact HB.out | apply below_alloc | apply pw_below_drewN | apply below_drew1 | refine below_set ?_ GE174.out) | exact HB.out)) hb); clear BK174; clear HB; have HO178 := n0_; have BK174 := n1_; have HB := n2_; clear n0_ n1_ n2_; clear hb ho11; have hcv12 := own_string (P := Try.prog) Try.underlying57 Try.underlying5 Try.underlying9 (Kd.own_of_R HO178.out)))
   go_ret2
   exact ⟨by first | rfl | (simp [errW_none, errW_some] <;> rfl) | (simp [*, errW_none, errW_some] <;> rfl), by repeat (first | (with_reducible first | exact HB.out | apply below_alloc | apply pw_below_drewN | apply below_drew1 | refine below_set ?_ GE174.out) | exact HB.out)⟩
  ·replace c6 := Bool.eq_false_iff.mpr c6
   subst c6
   have H1 : (some ((⟨#[]⟩ : ByteArray), 2)) = some (r1, r2) := by rw [if_neg (show ¬ (false = true) by decide)] at H; exact H
   clear H
   have H := H1
   clear H1
   simp only [Option.some.injEq, Prod.mk.injEq] at H
   obtain ⟨rfl, rfl⟩ := H
   go_enter Try.func46, Try.ntmps46
   go_wp2_with (first | ((with_reducible refine gate_callee (f := 66) rfl ?_); refine goesL_ (some 11) rfl rfl Try.func66 (by kernel_rfl) rfl #[.int .i64 a0, .int .i64 a1] rfl (by (try simp only [List.map_toArray, List.map_cons, List.map_nil]); first | done | rfl | (simp only [List.length_drop, List.length_take]; rfl)) ?_; (with_reducible refine (datetime_Split.calls k a0 a1 t167 t168 t169 t170 t171 t172 t173 _ A3.out).mono ?_); rintro e w13 ⟨rfl, hb⟩; refine ⟨_, rfl, ?_⟩; have n0_ := Aside0.mk (below_step (by repeat (first | (with_reducible first | exact HB.out | apply below_alloc | apply pw_below_drewN | apply below_drew1) | exact HB.out)) hb); clear HB; have HB := n0_; clear n0_; (try clear hb); (try clear hb2); (try clear hk); (try clear hi)) | ((with_reducible refine gate_dst (N := 6) rfl ?_); refine box_event ?hg (N := 6) ?hd (cs := #[.int .i64 0, .int .i64 0, .int .i64 0, .int .i64 0, .int .i64 0, .int .i64 0]) (t := 104) ?hr ?_; (case hd => rfl); (case hg => rfl); (case hr => first | (go_simp; done) | (go_simp; rfl)); intro gb174 hg w14 hbox hb; have n0_ := Aside0.mk (below_step (by repeat (first | (with_reducible first | exact HB.out | apply below_alloc | apply pw_below_drewN | apply below_drew1) | exact HB.out)) hb); have n1_ := Aside0.mk (hbox); have n2_ := Aside0.mk ((by rw [hg]; exact (below_size (by repeat (first | (with_reducible first | exact HB.out | apply below_alloc | apply pw_below_drewN | apply below_drew1) | exact HB.out))) : w.heap.size ≤ gb174)); have n3_ := Aside0.mk ((by rw [hg]; exact (below_size (by repeat (first | (with_reducible first | exact HB.out | apply below_alloc | apply pw_below_drewN | apply below_drew1) | exact HB.out))) : w.heap.size ≤ gb174)); clear HB; have HB := n0_; have BK174 := n1_; have GW174 := n2_; have GE174 := n3_; clear n0_ n1_ n2_ n3_; clear hb hbox hg; have hcz15_0 : w14.cell? ⟨gb174, 0, none⟩ = some (.int .i64 0) := (blk_cell BK174.out 0).trans rfl; have hcz15_1 : w14.cell? ⟨gb174, 1, none⟩ = some (.int .i64 0) := (blk_cell BK174.out 1).trans rfl; have hcz15_2 : w14.cell? ⟨gb174, 2, none⟩ = some (.int .i64 0) := (blk_cell BK174.out 2).trans rfl; have hcz15_3 : w14.cell? ⟨gb174, 3, none⟩ = some (.int .i64 0) := (blk_cell BK174.out 3).trans rfl; have hcz15_4 : w14.cell? ⟨gb174, 4, none⟩ = some (.int .i64 0) := (blk_cell BK174.out 4).trans rfl; have hcz15_5 : w14.cell? ⟨gb174, 5, none⟩ = some (.int .i64 0) := (blk_cell BK174.out 5).trans rfl; have hfz15_0 := blk_frozen BK174.out 0; have hfz15_1 := blk_frozen BK174.out 1; have hfz15_2 := blk_frozen BK174.out 2; have hfz15_3 := blk_frozen BK174.out 3; have hfz15_4 := blk_frozen BK174.out 4; have hfz15_5 := blk_frozen BK174.out 5) | (go_at_call 67; (with_reducible refine (datetime_isQuarter.calls a1 false _ A5.out).mono ?_); rintro e w' ⟨rfl, ⟨nd, rfl⟩⟩))
   go_ret2
   exact ⟨by first | rfl | (simp [errW_none, errW_some] <;> rfl) | (simp [*, errW_none, errW_some] <;> rfl), by repeat (first | (with_reducible first | exact HB.out | apply below_alloc | apply pw_below_drewN | apply below_drew1 | refine below_set ?_ GE174.out) | exact HB.out)⟩
 ·rw [if_neg c4] at H
  have c4b0 : (t173 == 0) = false := beq_eq_false_iff_ne.mpr c4
  have c4b1 : (t173 != 0) = true := bne_iff_ne.mpr c4
  simp only [Option.some.injEq, Prod.mk.injEq] at H
  obtain ⟨rfl, rfl⟩ := H
  go_enter Try.func46, Try.ntmps46
  go_wp2_with (first | ((with_reducible refine gate_callee (f := 66) rfl ?_); refine goesL_ (some 11) rfl rfl Try.func66 (by kernel_rfl) rfl #[.int .i64 a0, .int .i64 a1] rfl (by (try simp only [List.map_toArray, List.map_cons, List.map_nil]); first | done | rfl | (simp only [List.length_drop, List.length_take]; rfl)) ?_; (with_reducible refine (datetime_Split.calls k a0 a1 t167 t168 t169 t170 t171 t172 t173 _ A3.out).mono ?_); rintro e w16 ⟨rfl, hb⟩; refine ⟨_, rfl, ?_⟩; have n0_ := Aside0.mk (below_step (by repeat (first | (with_reducible first | exact HB.out | apply below_alloc | apply pw_below_drewN | apply below_drew1) | exact HB.out)) hb); clear HB; have HB := n0_; clear n0_; (try clear hb); (try clear hb2); (try clear hk); (try clear hi)) | ((with_reducible refine gate_dst (N := 6) rfl ?_); refine box_event ?hg (N := 6) ?hd (cs := #[.int .i64 0, .int .i64 0, .int .i64 0, .int .i64 0, .int .i64 0, .int .i64 0]) (t := 104) ?hr ?_; (case hd => rfl); (case hg => rfl); (case hr => first | (go_simp; done) | (go_simp; rfl)); intro gb174 hg w17 hbox hb; have n0_ := Aside0.mk (below_step (by repeat (first | (with_reducible first | exact HB.out | apply below_alloc | apply pw_below_drewN | apply below_drew1) | exact HB.out)) hb); have n1_ := Aside0.mk (hbox); have n2_ := Aside0.mk ((by rw [hg]; exact (below_size (by repeat (first | (with_reducible first | exact HB.out | apply below_alloc | apply pw_below_drewN | apply below_drew1) | exact HB.out))) : w.heap.size ≤ gb174)); have n3_ := Aside0.mk ((by rw [hg]; exact (below_size (by repeat (first | (with_reducible first | exact HB.out | apply below_alloc | apply pw_below_drewN | apply below_drew1) | exact HB.out))) : w.heap.size ≤ gb174)); clear HB; have HB := n0_; have BK174 := n1_; have GW174 := n2_; have GE174 := n3_; clear n0_ n1_ n2_ n3_; clear hb hbox hg; have hcz18_0 : w17.cell? ⟨gb174, 0, none⟩ = some (.int .i64 0) := (blk_cell BK174.out 0).trans rfl; have hcz18_1 : w17.cell? ⟨gb174, 1, none⟩ = some (.int .i64 0) := (blk_cell BK174.out 1).trans rfl; have hcz18_2 : w17.cell? ⟨gb174, 2, none⟩ = some (.int .i64 0) := (blk_cell BK174.out 2).trans rfl; have hcz18_3 : w17.cell? ⟨gb174, 3, none⟩ = some (.int .i64 0) := (blk_cell BK174.out 3).trans rfl; have hcz18_4 : w17.cell? ⟨gb174, 4, none⟩ = some (.int .i64 0) := (blk_cell BK174.out 4).trans rfl; have hcz18_5 : w17.cell? ⟨gb174, 5, none⟩ = some (.int .i64 0) := (blk_cell BK174.out 5).trans rfl; have hfz18_0 := blk_frozen BK174.out 0; have hfz18_1 := blk_frozen BK174.out 1; have hfz18_2 := blk_frozen BK174.out 2; have hfz18_3 := blk_frozen BK174.out 3; have hfz18_4 := blk_frozen BK174.out 4; have hfz18_5 := blk_frozen BK174.out 5))
  go_ret2
  exact ⟨by first | rfl | (simp [errW_none, errW_some] <;> rfl) | (simp [*, errW_none, errW_some] <;> rfl), by repeat (first | (with_reducible first | exact HB.out | apply below_alloc | apply pw_below_drewN | apply below_drew1 | refine below_set ?_ GE174.out) | exact HB.out)⟩

-- NOT PRINTED: function 49 (strings_Builder_Write)

-- NOT PRINTED: function 50 (strings_Builder_WriteByte)

end Go.Proofs.Ythblghfobnhoeaa.A
