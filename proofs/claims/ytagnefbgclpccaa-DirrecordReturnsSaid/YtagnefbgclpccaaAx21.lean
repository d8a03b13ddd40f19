-- Written by a program of this session's, hprint.py, out of the translation. Not trusted: Lean checks it.
import Derived.Test.YtagnefbgclpccaaAx0
import Derived.Test.YtagnefbgclpccaaAx1
import Derived.Test.YtagnefbgclpccaaAx2
import Derived.Test.YtagnefbgclpccaaAx10
import Derived.Test.YtagnefbgclpccaaH2d
import Derived.Test.YtagnefbgclpccaaH2h
import Derived.Test.YtagnefbgclpccaaH3
namespace Go.Proofs.Ytagnefbgclpccaa.A
open Go.RowKit Go.Proofs.Ytagnefbgclpccaa.H Go.Proofs.YtagnefbgclpccaaW.PrintWords Go.Proofs.YtagnefbgclpccaaW.PrintLast Go.Proofs.YtagnefbgclpccaaW.PrintMore
attribute [local go_sem] max2_int min2_int max_two min_two max_three min_three max_four min_four   -- for this text's walks alone
set_option linter.unusedVariables false
set_option linter.unusedSimpArgs false

attribute [local go_sem high] eqA23
/-! ### masterdisclaw20_DirrecordReturns: function 5 -/
def masterdisclaw20_DirrecordReturns.j0 : Nat → ByteArray → Bool → ByteArray → Int → Int → Int → Int → Int → Int → ByteArray → Option (Bool)
  | 0, _, _, _, _, _, _, _, _, _, _ => none
  | k + 1, x1, x26, x337000, x337001, x337002, x337003, x337004, x337005, x337006, x337007 => if x26 = true then (some true) else ((dirrecord_Encode.f k x337000 x337001 x337002 x337003 x337004 x337005 x337006 x337007).bind fun bt338 => (if bt338.2 = 0 then (if bt338.1.size + x1.size ≤ 9223372036854775807 then ((dirrecord_Decode.f k (bt338.1 ++ x1)).bind fun bt340 => (if bt340.2.2.2.2.2.2.2.2.2 = 0 then (if (bt340.1.toList == x337000.toList && (bt340.2.1 == x337001 && (bt340.2.2.1 == x337002 && (bt340.2.2.2.1 == x337003 && (bt340.2.2.2.2.1 == x337004 && (bt340.2.2.2.2.2.1 == x337005 && (bt340.2.2.2.2.2.2.1 == x337006 && (bt340.2.2.2.2.2.2.2.1.toList == x337007.toList)))))))) = true then (if bt340.2.2.2.2.2.2.2.2.1 = (bt338.1.size : Int) then ((dirrecord_Size.f k (x337000.size : Int) (x337007.size : Int)).bind fun t351 => (if bt340.2.2.2.2.2.2.2.2.1 = t351 then (if 0 < (bt338.1.size : Int) then (if (wrap64 (bt bt338.1 0)) = bt340.2.2.2.2.2.2.2.2.1 then ((dirrecord_Differ.f k bt338.1).bind fun t352 => (some ((t352.length : Int) == 0))) else (some false)) else (none)) else (some false))) else (some false)) else (some false)) else (some false))) else (none)) else (some (bt338.1.toList == ([] : List UInt8)))))
def masterdisclaw20_DirrecordReturns.f (k : Nat) (a0_0 : ByteArray) (a0_1 : Int) (a0_2 : Int) (a0_3 : Int) (a0_4 : Int) (a0_5 : Int) (a0_6 : Int) (a0_7 : ByteArray) (a1 : ByteArray) : Option (Bool) := (masterdisclaw20_awake.f).bind fun t337 => (if t337 = true then (if (a0_0.size : Int) > 300 then (masterdisclaw20_DirrecordReturns.j0 k a1 true a0_0 a0_1 a0_2 a0_3 a0_4 a0_5 a0_6 a0_7) else (if (a0_7.size : Int) > 300 then (masterdisclaw20_DirrecordReturns.j0 k a1 true a0_0 a0_1 a0_2 a0_3 a0_4 a0_5 a0_6 a0_7) else (masterdisclaw20_DirrecordReturns.j0 k a1 (decide ((a1.size : Int) > 100)) a0_0 a0_1 a0_2 a0_3 a0_4 a0_5 a0_6 a0_7))) else (some false))
theorem masterdisclaw20_DirrecordReturns.mono_l : ∀ k, (∀ y0 y1 y2 y3 y4 y5 y6 y7 y8 y9, LeO (masterdisclaw20_DirrecordReturns.j0 k y0 y1 y2 y3 y4 y5 y6 y7 y8 y9) (masterdisclaw20_DirrecordReturns.j0 (k + 1) y0 y1 y2 y3 y4 y5 y6 y7 y8 y9))
  | 0 => fun _ _ _ _ _ _ _ _ _ _ r h => by simp [masterdisclaw20_DirrecordReturns.j0] at h
  | k + 1 => by
    have ih0 := masterdisclaw20_DirrecordReturns.mono_l k
    · intro y0 y1 y2 y3 y4 y5 y6 y7 y8 y9
      unfold masterdisclaw20_DirrecordReturns.j0
      repeat' first
      | (with_reducible exact ih0 _ _ _ _ _ _ _ _ _ _)
      | (with_reducible exact dirrecord_Decode.mono _ _)
      | (with_reducible exact dirrecord_Differ.mono _ _)
      | (with_reducible exact dirrecord_Encode.mono _ _ _ _ _ _ _ _ _)
      | (with_reducible exact dirrecord_Size.mono _ _ _)
      | (with_reducible exact LeO.refl _)
      | (with_reducible exact LeO.none _)
      | (with_reducible refine LeO.ite ?_ ?_)
      | (with_reducible refine LeO.bind ?_ (fun _ => ?_))
      | exact ih0 _ _ _ _ _ _ _ _ _ _
      | exact dirrecord_Decode.mono _ _
      | exact dirrecord_Differ.mono _ _
      | exact dirrecord_Encode.mono _ _ _ _ _ _ _ _ _
      | exact dirrecord_Size.mono _ _ _
      | exact LeO.none _
      | refine LeO.ite ?_ ?_
      | refine LeO.bind ?_ (fun _ => ?_)
theorem masterdisclaw20_DirrecordReturns.mono : ∀ a0 a1 a2 a3 a4 a5 a6 a7 a8 k, LeO (masterdisclaw20_DirrecordReturns.f k a0 a1 a2 a3 a4 a5 a6 a7 a8) (masterdisclaw20_DirrecordReturns.f (k + 1) a0 a1 a2 a3 a4 a5 a6 a7 a8) := by
  intro a0 a1 a2 a3 a4 a5 a6 a7 a8 k
  have ih0 := masterdisclaw20_DirrecordReturns.mono_l k
  unfold masterdisclaw20_DirrecordReturns.f
  repeat' first
      | (with_reducible exact ih0 _ _ _ _ _ _ _ _ _ _)
      | (with_reducible exact dirrecord_Decode.mono _ _)
      | (with_reducible exact dirrecord_Differ.mono _ _)
      | (with_reducible exact dirrecord_Encode.mono _ _ _ _ _ _ _ _ _)
      | (with_reducible exact dirrecord_Size.mono _ _ _)
      | (with_reducible exact LeO.refl _)
      | (with_reducible exact LeO.none _)
      | (with_reducible refine LeO.ite ?_ ?_)
      | (with_reducible refine LeO.bind ?_ (fun _ => ?_))
      | exact ih0 _ _ _ _ _ _ _ _ _ _
      | exact dirrecord_Decode.mono _ _
      | exact dirrecord_Differ.mono _ _
      | exact dirrecord_Encode.mono _ _ _ _ _ _ _ _ _
      | exact dirrecord_Size.mono _ _ _
      | exact LeO.none _
      | refine LeO.ite ?_ ?_
      | refine LeO.bind ?_ (fun _ => ?_)
set_option maxHeartbeats 8000000 in
set_option maxRecDepth 100000 in
theorem masterdisclaw20_DirrecordReturns.calls (k : Nat) (a0_0 : ByteArray) (a0_1 : Int) (a0_2 : Int) (a0_3 : Int) (a0_4 : Int) (a0_5 : Int) (a0_6 : Int) (a0_7 : ByteArray) (a1 : ByteArray) (r : Bool) (w : World) (h : masterdisclaw20_DirrecordReturns.f k a0_0 a0_1 a0_2 a0_3 a0_4 a0_5 a0_6 a0_7 a1 = some r) :
    Calls Try.prog 5 #[.agg #[.string a0_0, .int .i64 a0_1, .int .i64 a0_2, .int .i64 a0_3, .int .i64 a0_4, .int .i64 a0_5, .int .i64 a0_6, .string a0_7], .string a1] w fun e w' => e = .returned (.bool r) ∧ Below w.heap.size w w' := by
  have hu23 := Try.underlying23
  have HB := Aside0.mk (Below.refl w.heap.size w)
  have H : ((masterdisclaw20_awake.f).bind fun t337 => (if t337 = true then (if (a0_0.size : Int) > 300 then (masterdisclaw20_DirrecordReturns.j0 k a1 true a0_0 a0_1 a0_2 a0_3 a0_4 a0_5 a0_6 a0_7) else (if (a0_7.size : Int) > 300 then (masterdisclaw20_DirrecordReturns.j0 k a1 true a0_0 a0_1 a0_2 a0_3 a0_4 a0_5 a0_6 a0_7) else (masterdisclaw20_DirrecordReturns.j0 k a1 (decide ((a1.size : Int) > 100)) a0_0 a0_1 a0_2 a0_3 a0_4 a0_5 a0_6 a0_7))) else (some false))) = some r := h
  clear h
  replace H := Option.bind_eq_some_iff.mp H
  obtain ⟨t337, A30, H⟩ := H
  replace H : (if t337 = true then (if (a0_0.size : Int) > 300 then (masterdisclaw20_DirrecordReturns.j0 k a1 true a0_0 a0_1 a0_2 a0_3 a0_4 a0_5 a0_6 a0_7) else (if (a0_7.size : Int) > 300 then (masterdisclaw20_DirrecordReturns.j0 k a1 true a0_0 a0_1 a0_2 a0_3 a0_4 a0_5 a0_6 a0_7) else (masterdisclaw20_DirrecordReturns.j0 k a1 (decide ((a1.size : Int) > 100)) a0_0 a0_1 a0_2 a0_3 a0_4 a0_5 a0_6 a0_7))) else (some false)) = some r := H
  have A3 := Aside0.mk A30
  clear A30
  by_cases c4 : t337 = true
  · subst c4
    have H1 : (if (a0_0.size : Int) > 300 then (masterdisclaw20_DirrecordReturns.j0 k a1 true a0_0 a0_1 a0_2 a0_3 a0_4 a0_5 a0_6 a0_7) else (if (a0_7.size : Int) > 300 then (masterdisclaw20_DirrecordReturns.j0 k a1 true a0_0 a0_1 a0_2 a0_3 a0_4 a0_5 a0_6 a0_7) else (masterdisclaw20_DirrecordReturns.j0 k a1 (decide ((a1.size : Int) > 100)) a0_0 a0_1 a0_2 a0_3 a0_4 a0_5 a0_6 a0_7))) = some r := by rw [if_pos rfl] at H; exact H
    clear H
    have H := H1
    clear H1
    have HC5 := Aside0.mk H
    clear H
    go_enter Try.func5, Try.ntmps5
    go_upto_region 3 with (first | ((with_reducible refine gate_dst (N := 2) rfl ?_); (try (refine gate_guard (by rfl) ?_; dsimp only)); refine box_event ?hg (N := 2) ?hd (cs := #[.string a0_0, .int .i64 a0_1, .int .i64 a0_2, .int .i64 a0_3, .int .i64 a0_4, .int .i64 a0_5, .int .i64 a0_6, .string a0_7]) (t := 23) ?hr ?_; (case hd => rfl); (case hg => rfl); (case hr => first | (go_simp; done) | (go_simp; rfl)); intro gb336 hg w6 hbox hb; have n0_ := Aside0.mk (below_step (by repeat (first | (with_reducible first | exact HB.out | apply below_alloc | apply pw_below_drewN | apply below_drew1) | exact HB.out)) hb); have n1_ := Aside0.mk (hbox); have n2_ := Aside0.mk ((by rw [hg]; exact (below_size (by repeat (first | (with_reducible first | exact HB.out | apply below_alloc | apply pw_below_drewN | apply below_drew1) | exact HB.out))) : w.heap.size ≤ gb336)); have n3_ := Aside0.mk ((by rw [hg]; exact (below_size (by repeat (first | (with_reducible first | exact HB.out | apply below_alloc | apply pw_below_drewN | apply below_drew1) | exact HB.out))) : w.heap.size ≤ gb336)); clear HB; have HB := n0_; have BK336 := n1_; have GW336 := n2_; have GE336 := n3_; clear n0_ n1_ n2_ n3_; clear hb hbox hg) | ((with_reducible refine gate_callee (f := 10) rfl ?_); refine goesL_ (some 10) rfl rfl Try.func10 (by kernel_rfl) rfl #[] rfl (by (try simp only [List.map_toArray, List.map_cons, List.map_nil]); first | done | rfl | (simp only [List.length_drop, List.length_take]; rfl)) ?_; (with_reducible refine (masterdisclaw20_awake.calls  true _ A3.out).mono ?_); rintro e w7 ⟨rfl, hb⟩; refine ⟨_, rfl, ?_⟩; have n0_ := Aside0.mk (blk_below (g := gb336) (o := .cells #[.string a0_0, .int .i64 a0_1, .int .i64 a0_2, .int .i64 a0_3, .int .i64 a0_4, .int .i64 a0_5, .int .i64 a0_6, .string a0_7] 23 (0, 0)) (by (with_reducible repeat (first | refine blk_drewN ?_ _ | refine blk_drew ?_ | refine blk_alloc ?_ _)); exact BK336.out) hb); have n1_ := Aside0.mk (below_step (by repeat (first | (with_reducible first | exact HB.out | apply below_alloc | apply pw_below_drewN | apply below_drew1 | refine below_set ?_ GE336.out) | exact HB.out)) hb); clear BK336; clear HB; have BK336 := n0_; have HB := n1_; clear n0_ n1_; (try clear hb); (try clear hb2); (try clear hk); (try clear hi)))
    (try simp only [Act.put, List.setIfInBounds_toArray, List.set_cons_zero, List.set_cons_succ])
    go_cut [26] (fun v26 wc => ∃ (kq : Nat) (x26_4 : Bool), v26 = .bool x26_4 ∧ Aside0 (masterdisclaw20_DirrecordReturns.j0 kq a1 x26_4 a0_0 a0_1 a0_2 a0_3 a0_4 a0_5 a0_6 a0_7 = some r) ∧ Aside0 (kq ≤ k) ∧ Aside0 (wc.heap[gb336]? = some (.cells #[.string a0_0, .int .i64 a0_1, .int .i64 a0_2, .int .i64 a0_3, .int .i64 a0_4, .int .i64 a0_5, .int .i64 a0_6, .string a0_7] 23 (0, 0))) ∧ Aside0 (Below w.heap.size w wc))
    case first =>
      have H := HC5.out
      clear HC5
      by_cases c8 : (a0_0.size : Int) > 300
      · rw [if_pos c8] at H
        have c8b0 : decide (300 < (a0_0.size : Int)) = true := decide_eq_true c8
        have c8b1 : decide (300 < a0_0.size) = true := decide_eq_true (by omega)
        clear c8
        (first | rw [c8b0] | (simp only [i64_w, i32_w]; rw [c8b0]) | skip)
        have H' := Aside0.mk H
        clear H
        have hcz9_0 : w7.cell? ⟨gb336, 0, none⟩ = some (.string a0_0) := (blk_cell BK336.out 0).trans rfl
        have hcz9_1 : w7.cell? ⟨gb336, 1, none⟩ = some (.int .i64 a0_1) := (blk_cell BK336.out 1).trans rfl
        have hcz9_2 : w7.cell? ⟨gb336, 2, none⟩ = some (.int .i64 a0_2) := (blk_cell BK336.out 2).trans rfl
        have hcz9_3 : w7.cell? ⟨gb336, 3, none⟩ = some (.int .i64 a0_3) := (blk_cell BK336.out 3).trans rfl
        have hcz9_4 : w7.cell? ⟨gb336, 4, none⟩ = some (.int .i64 a0_4) := (blk_cell BK336.out 4).trans rfl
        have hcz9_5 : w7.cell? ⟨gb336, 5, none⟩ = some (.int .i64 a0_5) := (blk_cell BK336.out 5).trans rfl
        have hcz9_6 : w7.cell? ⟨gb336, 6, none⟩ = some (.int .i64 a0_6) := (blk_cell BK336.out 6).trans rfl
        have hcz9_7 : w7.cell? ⟨gb336, 7, none⟩ = some (.string a0_7) := (blk_cell BK336.out 7).trans rfl
        have hfz9_0 := blk_frozen BK336.out 0
        have hfz9_1 := blk_frozen BK336.out 1
        have hfz9_2 := blk_frozen BK336.out 2
        have hfz9_3 := blk_frozen BK336.out 3
        have hfz9_4 := blk_frozen BK336.out 4
        have hfz9_5 := blk_frozen BK336.out 5
        have hfz9_6 := blk_frozen BK336.out 6
        have hfz9_7 := blk_frozen BK336.out 7
        go_wp2
        go_meet
        case rel => exact ⟨_, (true), (by first | rfl | (simp; done) | (simp [*]; done)), H', ⟨by first | omega | exact Nat.le_refl _⟩, ⟨by (with_reducible repeat (first | refine blk_drewN ?_ _ | refine blk_drew ?_ | refine blk_alloc ?_ _)); exact BK336.out⟩, ⟨by repeat (first | (with_reducible first | exact HB.out | apply below_alloc | apply pw_below_drewN | apply below_drew1 | refine below_set ?_ GE336.out) | exact HB.out)⟩⟩
      · rw [if_neg c8] at H
        have c8b0 : decide (300 < (a0_0.size : Int)) = false := decide_eq_false c8
        have c8b1 : decide (300 < a0_0.size) = false := decide_eq_false (by omega)
        clear c8
        (first | rw [c8b0] | (simp only [i64_w, i32_w]; rw [c8b0]) | skip)
        by_cases c10 : (a0_7.size : Int) > 300
        · rw [if_pos c10] at H
          have c10b0 : decide (300 < (a0_7.size : Int)) = true := decide_eq_true c10
          have c10b1 : decide (300 < a0_7.size) = true := decide_eq_true (by omega)
          clear c10
          have H' := Aside0.mk H
          clear H
          have hcz11_0 : w7.cell? ⟨gb336, 0, none⟩ = some (.string a0_0) := (blk_cell BK336.out 0).trans rfl
          have hcz11_1 : w7.cell? ⟨gb336, 1, none⟩ = some (.int .i64 a0_1) := (blk_cell BK336.out 1).trans rfl
          have hcz11_2 : w7.cell? ⟨gb336, 2, none⟩ = some (.int .i64 a0_2) := (blk_cell BK336.out 2).trans rfl
          have hcz11_3 : w7.cell? ⟨gb336, 3, none⟩ = some (.int .i64 a0_3) := (blk_cell BK336.out 3).trans rfl
          have hcz11_4 : w7.cell? ⟨gb336, 4, none⟩ = some (.int .i64 a0_4) := (blk_cell BK336.out 4).trans rfl
          have hcz11_5 : w7.cell? ⟨gb336, 5, none⟩ = some (.int .i64 a0_5) := (blk_cell BK336.out 5).trans rfl
          have hcz11_6 : w7.cell? ⟨gb336, 6, none⟩ = some (.int .i64 a0_6) := (blk_cell BK336.out 6).trans rfl
          have hcz11_7 : w7.cell? ⟨gb336, 7, none⟩ = some (.string a0_7) := (blk_cell BK336.out 7).trans rfl
          have hfz11_0 := blk_frozen BK336.out 0
          have hfz11_1 := blk_frozen BK336.out 1
          have hfz11_2 := blk_frozen BK336.out 2
          have hfz11_3 := blk_frozen BK336.out 3
          have hfz11_4 := blk_frozen BK336.out 4
          have hfz11_5 := blk_frozen BK336.out 5
          have hfz11_6 := blk_frozen BK336.out 6
          have hfz11_7 := blk_frozen BK336.out 7
          go_wp2
          go_meet
          case rel => exact ⟨_, (true), (by first | rfl | (simp; done) | (simp [*]; done)), H', ⟨by first | omega | exact Nat.le_refl _⟩, ⟨by (with_reducible repeat (first | refine blk_drewN ?_ _ | refine blk_drew ?_ | refine blk_alloc ?_ _)); exact BK336.out⟩, ⟨by repeat (first | (with_reducible first | exact HB.out | apply below_alloc | apply pw_below_drewN | apply below_drew1 | refine below_set ?_ GE336.out) | exact HB.out)⟩⟩
        · rw [if_neg c10] at H
          have c10b0 : decide (300 < (a0_7.size : Int)) = false := decide_eq_false c10
          have c10b1 : decide (300 < a0_7.size) = false := decide_eq_false (by omega)
          clear c10
          have H' := Aside0.mk H
          clear H
          have hcz12_0 : w7.cell? ⟨gb336, 0, none⟩ = some (.string a0_0) := (blk_cell BK336.out 0).trans rfl
          have hcz12_1 : w7.cell? ⟨gb336, 1, none⟩ = some (.int .i64 a0_1) := (blk_cell BK336.out 1).trans rfl
          have hcz12_2 : w7.cell? ⟨gb336, 2, none⟩ = some (.int .i64 a0_2) := (blk_cell BK336.out 2).trans rfl
          have hcz12_3 : w7.cell? ⟨gb336, 3, none⟩ = some (.int .i64 a0_3) := (blk_cell BK336.out 3).trans rfl
          have hcz12_4 : w7.cell? ⟨gb336, 4, none⟩ = some (.int .i64 a0_4) := (blk_cell BK336.out 4).trans rfl
          have hcz12_5 : w7.cell? ⟨gb336, 5, none⟩ = some (.int .i64 a0_5) := (blk_cell BK336.out 5).trans rfl
          have hcz12_6 : w7.cell? ⟨gb336, 6, none⟩ = some (.int .i64 a0_6) := (blk_cell BK336.out 6).trans rfl
          have hcz12_7 : w7.cell? ⟨gb336, 7, none⟩ = some (.string a0_7) := (blk_cell BK336.out 7).trans rfl
          have hfz12_0 := blk_frozen BK336.out 0
          have hfz12_1 := blk_frozen BK336.out 1
          have hfz12_2 := blk_frozen BK336.out 2
          have hfz12_3 := blk_frozen BK336.out 3
          have hfz12_4 := blk_frozen BK336.out 4
          have hfz12_5 := blk_frozen BK336.out 5
          have hfz12_6 := blk_frozen BK336.out 6
          have hfz12_7 := blk_frozen BK336.out 7
          go_wp2
          go_meet
          case rel => exact ⟨_, (decide ((a1.size : Int) > 100)), (by first | rfl | (simp; done) | (simp [*]; done)), H', ⟨by first | omega | exact Nat.le_refl _⟩, ⟨by (with_reducible repeat (first | refine blk_drewN ?_ _ | refine blk_drew ?_ | refine blk_alloc ?_ _)); exact BK336.out⟩, ⟨by repeat (first | (with_reducible first | exact HB.out | apply below_alloc | apply pw_below_drewN | apply below_drew1 | refine below_set ?_ GE336.out) | exact HB.out)⟩⟩
    case rest =>
      clear HC5
      try clear c1
      try clear p2
      try clear c4
      try clear c5
      try clear c8
      try clear c8b0
      try clear c8b1
      try clear c10
      try clear c10b0
      try clear c10b1
      try clear hcz11_0
      try clear hcz11_1
      try clear hcz11_2
      try clear hcz11_3
      try clear hcz11_4
      try clear hcz11_5
      try clear hcz11_6
      try clear hcz11_7
      try clear hcz12_0
      try clear hcz12_1
      try clear hcz12_2
      try clear hcz12_3
      try clear hcz12_4
      try clear hcz12_5
      try clear hcz12_6
      try clear hcz12_7
      try clear hcz9_0
      try clear hcz9_1
      try clear hcz9_2
      try clear hcz9_3
      try clear hcz9_4
      try clear hcz9_5
      try clear hcz9_6
      try clear hcz9_7
      try clear hfz11_0
      try clear hfz11_1
      try clear hfz11_2
      try clear hfz11_3
      try clear hfz11_4
      try clear hfz11_5
      try clear hfz11_6
      try clear hfz11_7
      try clear hfz12_0
      try clear hfz12_1
      try clear hfz12_2
      try clear hfz12_3
      try clear hfz12_4
      try clear hfz12_5
      try clear hfz12_6
      try clear hfz12_7
      try clear hfz9_0
      try clear hfz9_1
      try clear hfz9_2
      try clear hfz9_3
      try clear hfz9_4
      try clear hfz9_5
      try clear hfz9_6
      try clear hfz9_7
      obtain ⟨kq, x26_4, rfl, HA, HJ4, BK336, HB⟩ := hcut
      cases kq with
      | zero => exact absurd HA.out (by simp [masterdisclaw20_DirrecordReturns.j0])
      | succ kj4 =>
        have H := HA.out
        clear HA
        simp only [masterdisclaw20_DirrecordReturns.j0] at H
        by_cases c13 : x26_4 = true
        · subst c13
          have H1 : (some true) = some r := by rw [if_pos rfl] at H; exact H
          clear H
          have H := H1
          clear H1
          obtain rfl := Option.some.inj H
          go_wp2
          go_ret
          exact ⟨by first | rfl | (simp [errW_none, errW_some] <;> rfl) | (simp [*, errW_none, errW_some] <;> rfl), by repeat (first | (with_reducible first | exact HB.out | apply below_alloc | apply pw_below_drewN | apply below_drew1 | refine below_set ?_ GE336.out) | exact HB.out)⟩
        · replace c13 := Bool.eq_false_iff.mpr c13
          subst c13
          have H1 : ((dirrecord_Encode.f kj4 a0_0 a0_1 a0_2 a0_3 a0_4 a0_5 a0_6 a0_7).bind fun bt338 => (if bt338.2 = 0 then (if bt338.1.size + a1.size ≤ 9223372036854775807 then ((dirrecord_Decode.f kj4 (bt338.1 ++ a1)).bind fun bt340 => (if bt340.2.2.2.2.2.2.2.2.2 = 0 then (if (bt340.1.toList == a0_0.toList && (bt340.2.1 == a0_1 && (bt340.2.2.1 == a0_2 && (bt340.2.2.2.1 == a0_3 && (bt340.2.2.2.2.1 == a0_4 && (bt340.2.2.2.2.2.1 == a0_5 && (bt340.2.2.2.2.2.2.1 == a0_6 && (bt340.2.2.2.2.2.2.2.1.toList == a0_7.toList)))))))) = true then (if bt340.2.2.2.2.2.2.2.2.1 = (bt338.1.size : Int) then ((dirrecord_Size.f kj4 (a0_0.size : Int) (a0_7.size : Int)).bind fun t351 => (if bt340.2.2.2.2.2.2.2.2.1 = t351 then (if 0 < (bt338.1.size : Int) then (if (wrap64 (bt bt338.1 0)) = bt340.2.2.2.2.2.2.2.2.1 then ((dirrecord_Differ.f kj4 bt338.1).bind fun t352 => (some ((t352.length : Int) == 0))) else (some false)) else (none)) else (some false))) else (some false)) else (some false)) else (some false))) else (none)) else (some (bt338.1.toList == ([] : List UInt8))))) = some r := by rw [if_neg (show ¬ (false = true) by decide)] at H; exact H
          clear H
          have H := H1
          clear H1
          replace H := Option.bind_eq_some_iff.mp H
          obtain ⟨⟨t338, t339⟩, A140, H⟩ := H
          replace H : (if t339 = 0 then (if t338.size + a1.size ≤ 9223372036854775807 then ((dirrecord_Decode.f kj4 (t338 ++ a1)).bind fun bt340 => (if bt340.2.2.2.2.2.2.2.2.2 = 0 then (if (bt340.1.toList == a0_0.toList && (bt340.2.1 == a0_1 && (bt340.2.2.1 == a0_2 && (bt340.2.2.2.1 == a0_3 && (bt340.2.2.2.2.1 == a0_4 && (bt340.2.2.2.2.2.1 == a0_5 && (bt340.2.2.2.2.2.2.1 == a0_6 && (bt340.2.2.2.2.2.2.2.1.toList == a0_7.toList)))))))) = true then (if bt340.2.2.2.2.2.2.2.2.1 = (t338.size : Int) then ((dirrecord_Size.f kj4 (a0_0.size : Int) (a0_7.size : Int)).bind fun t351 => (if bt340.2.2.2.2.2.2.2.2.1 = t351 then (if 0 < (t338.size : Int) then (if (wrap64 (bt t338 0)) = bt340.2.2.2.2.2.2.2.2.1 then ((dirrecord_Differ.f kj4 t338).bind fun t352 => (some ((t352.length : Int) == 0))) else (some false)) else (none)) else (some false))) else (some false)) else (some false)) else (some false))) else (none)) else (some (t338.toList == ([] : List UInt8)))) = some r := H
          have A14 := Aside0.mk A140
          clear A140
          by_cases c15 : t339 = 0
          · rw [if_pos c15] at H
            have c15b0 : (t339 == 0) = true := beq_iff_eq.mpr c15
            have c15b1 : (t339 != 0) = false := bne_eq_false_iff_eq.mpr c15
            clear c15
            by_cases c16 : t338.size + a1.size ≤ 9223372036854775807
            · rw [if_pos c16] at H
              have c16b0 := eq_true c16
              have c16b1 : decide (t338.size + a1.size ≤ 9223372036854775807) = true := decide_eq_true c16
              try have c16b2 : (9223372036854775807 < t338.size + a1.size) = False := eq_false (Nat.not_lt.2 c16)
              replace H := Option.bind_eq_some_iff.mp H
              obtain ⟨⟨t340, t341, t342, t343, t344, t345, t346, t347, t348, t349⟩, A170, H⟩ := H
              replace H : (if t349 = 0 then (if (t340.toList == a0_0.toList && (t341 == a0_1 && (t342 == a0_2 && (t343 == a0_3 && (t344 == a0_4 && (t345 == a0_5 && (t346 == a0_6 && (t347.toList == a0_7.toList)))))))) = true then (if t348 = (t338.size : Int) then ((dirrecord_Size.f kj4 (a0_0.size : Int) (a0_7.size : Int)).bind fun t351 => (if t348 = t351 then (if 0 < (t338.size : Int) then (if (wrap64 (bt t338 0)) = t348 then ((dirrecord_Differ.f kj4 t338).bind fun t352 => (some ((t352.length : Int) == 0))) else (some false)) else (none)) else (some false))) else (some false)) else (some false)) else (some false)) = some r := H
              have A17 := Aside0.mk A170
              clear A170
              by_cases c18 : t349 = 0
              · rw [if_pos c18] at H
                have c18b0 : (t349 == 0) = true := beq_iff_eq.mpr c18
                have c18b1 : (t349 != 0) = false := bne_eq_false_iff_eq.mpr c18
                clear c18
                by_cases c19 : (t340.toList == a0_0.toList && (t341 == a0_1 && (t342 == a0_2 && (t343 == a0_3 && (t344 == a0_4 && (t345 == a0_5 && (t346 == a0_6 && (t347.toList == a0_7.toList)))))))) = true
                · rw [if_pos c19] at H
                  have c19b0 : (t340.toList == a0_0.toList && (t341 == a0_1 && (t342 == a0_2 && (t343 == a0_3 && (t344 == a0_4 && (t345 == a0_5 && (t346 == a0_6 && (t347.toList == a0_7.toList)))))))) = true := c19
                  (try (have c19b1 : decide (t340.toList = a0_0.toList && (t341 == a0_1 && (t342 == a0_2 && (t343 == a0_3 && (t344 == a0_4 && (t345 == a0_5 && (t346 == a0_6 && (t347.toList == a0_7.toList)))))))) = true := by simpa using c19))
                  (try (have c19b2 : (t340.toList == a0_0.toList && (t341 == a0_1 && (t342 == a0_2 && (t343 == a0_3 && (t344 == a0_4 && (t345 == a0_5 && (t346 == a0_6 && (t347.toList == a0_7.toList)))))))) = true := by simpa using c19))
                  clear c19
                  by_cases c20 : t348 = (t338.size : Int)
                  · rw [if_pos c20] at H
                    have c20b0 : (t348 == (t338.size : Int)) = true := beq_iff_eq.mpr c20
                    have c20b1 : (t348 != (t338.size : Int)) = false := bne_eq_false_iff_eq.mpr c20
                    clear c20
                    replace H := Option.bind_eq_some_iff.mp H
                    obtain ⟨t351, A210, H⟩ := H
                    replace H : (if t348 = t351 then (if 0 < (t338.size : Int) then (if (wrap64 (bt t338 0)) = t348 then ((dirrecord_Differ.f kj4 t338).bind fun t352 => (some ((t352.length : Int) == 0))) else (some false)) else (none)) else (some false)) = some r := H
                    have A21 := Aside0.mk A210
                    clear A210
                    by_cases c22 : t348 = t351
                    · rw [if_pos c22] at H
                      have c22b0 : (t348 == t351) = true := beq_iff_eq.mpr c22
                      have c22b1 : (t348 != t351) = false := bne_eq_false_iff_eq.mpr c22
                      clear c22
                      by_cases c23 : 0 < (t338.size : Int)
                      · rw [if_pos c23] at H
                        have c23b0 : decide (0 < (t338.size : Int)) = true := decide_eq_true c23
                        have c23b1 : decide (0 < t338.size) = true := decide_eq_true (by omega)
                        clear c23
                        by_cases c25 : (wrap64 (bt t338 0)) = t348
                        · rw [if_pos c25] at H
                          have c25b0 : ((wrap64 (bt t338 0)) == t348) = true := beq_iff_eq.mpr c25
                          have c25b1 : ((wrap64 (bt t338 0)) != t348) = false := bne_eq_false_iff_eq.mpr c25
                          clear c25
                          replace H := Option.bind_eq_some_iff.mp H
                          obtain ⟨t352, A260, H⟩ := H
                          replace H : (some ((t352.length : Int) == 0)) = some r := H
                          have A26 := Aside0.mk A260
                          clear A260
                          obtain rfl := Option.some.inj H
                          have hcz27_0 : wc.cell? ⟨gb336, 0, none⟩ = some (.string a0_0) := (blk_cell BK336.out 0).trans rfl
                          have hcz27_1 : wc.cell? ⟨gb336, 1, none⟩ = some (.int .i64 a0_1) := (blk_cell BK336.out 1).trans rfl
                          have hcz27_2 : wc.cell? ⟨gb336, 2, none⟩ = some (.int .i64 a0_2) := (blk_cell BK336.out 2).trans rfl
                          have hcz27_3 : wc.cell? ⟨gb336, 3, none⟩ = some (.int .i64 a0_3) := (blk_cell BK336.out 3).trans rfl
                          have hcz27_4 : wc.cell? ⟨gb336, 4, none⟩ = some (.int .i64 a0_4) := (blk_cell BK336.out 4).trans rfl
                          have hcz27_5 : wc.cell? ⟨gb336, 5, none⟩ = some (.int .i64 a0_5) := (blk_cell BK336.out 5).trans rfl
                          have hcz27_6 : wc.cell? ⟨gb336, 6, none⟩ = some (.int .i64 a0_6) := (blk_cell BK336.out 6).trans rfl
                          have hcz27_7 : wc.cell? ⟨gb336, 7, none⟩ = some (.string a0_7) := (blk_cell BK336.out 7).trans rfl
                          have hfz27_0 := blk_frozen BK336.out 0
                          have hfz27_1 := blk_frozen BK336.out 1
                          have hfz27_2 := blk_frozen BK336.out 2
                          have hfz27_3 := blk_frozen BK336.out 3
                          have hfz27_4 := blk_frozen BK336.out 4
                          have hfz27_5 := blk_frozen BK336.out 5
                          have hfz27_6 := blk_frozen BK336.out 6
                          have hfz27_7 := blk_frozen BK336.out 7
                          go_wp2_with (first | ((with_reducible refine gate_callee (f := 11) rfl ?_); refine goesL_ (some 29) rfl rfl Try.func11 (by kernel_rfl) rfl #[.agg #[.string a0_0, .int .i64 a0_1, .int .i64 a0_2, .int .i64 a0_3, .int .i64 a0_4, .int .i64 a0_5, .int .i64 a0_6, .string a0_7]] rfl (by (try simp only [List.map_toArray, List.map_cons, List.map_nil]); first | done | rfl | (simp only [List.length_drop, List.length_take]; rfl)) ?_; (with_reducible refine (dirrecord_Encode.calls kj4 a0_0 a0_1 a0_2 a0_3 a0_4 a0_5 a0_6 a0_7 t338 t339 _ A14.out).mono ?_); rintro e w28 ⟨rfl, hb⟩; refine ⟨_, rfl, ?_⟩; have n0_ := Aside0.mk (blk_below (g := gb336) (o := .cells #[.string a0_0, .int .i64 a0_1, .int .i64 a0_2, .int .i64 a0_3, .int .i64 a0_4, .int .i64 a0_5, .int .i64 a0_6, .string a0_7] 23 (0, 0)) (by (with_reducible repeat (first | refine blk_drewN ?_ _ | refine blk_drew ?_ | refine blk_alloc ?_ _)); exact BK336.out) hb); have n1_ := Aside0.mk (below_step (by repeat (first | (with_reducible first | exact HB.out | apply below_alloc | apply pw_below_drewN | apply below_drew1 | refine below_set ?_ GE336.out) | exact HB.out)) hb); clear BK336; clear HB; have BK336 := n0_; have HB := n1_; clear n0_ n1_; (try clear hb); (try clear hb2); (try clear hk); (try clear hi)) | ((with_reducible refine gate_callee (f := 15) rfl ?_); refine goesL_ (some 40) rfl rfl Try.func15 (by kernel_rfl) rfl #[.string (t338 ++ a1)] rfl (by (try simp only [List.map_toArray, List.map_cons, List.map_nil]); first | done | rfl | (simp only [List.length_drop, List.length_take]; rfl)) ?_; (with_reducible refine (dirrecord_Decode.calls kj4 (t338 ++ a1) t340 t341 t342 t343 t344 t345 t346 t347 t348 t349 _ A17.out).mono ?_); rintro e w29 ⟨rfl, hb⟩; refine ⟨_, rfl, ?_⟩; have n0_ := Aside0.mk (blk_below (g := gb336) (o := .cells #[.string a0_0, .int .i64 a0_1, .int .i64 a0_2, .int .i64 a0_3, .int .i64 a0_4, .int .i64 a0_5, .int .i64 a0_6, .string a0_7] 23 (0, 0)) (by (with_reducible repeat (first | refine blk_drewN ?_ _ | refine blk_drew ?_ | refine blk_alloc ?_ _)); exact BK336.out) hb); have n1_ := Aside0.mk (below_step (by repeat (first | (with_reducible first | exact HB.out | apply below_alloc | apply pw_below_drewN | apply below_drew1 | refine below_set ?_ GE336.out) | exact HB.out)) hb); clear BK336; clear HB; have BK336 := n0_; have HB := n1_; clear n0_ n1_; (try clear hb); (try clear hb2); (try clear hk); (try clear hi)) | ((with_reducible refine gate_dst (N := 7) rfl ?_); (try (refine gate_guard (by rfl) ?_; dsimp only)); refine box_event ?hg (N := 7) ?hd (cs := #[.string (⟨#[]⟩ : ByteArray), .int .i64 0, .int .i64 0, .int .i64 0, .int .i64 0, .int .i64 0, .int .i64 0, .string (⟨#[]⟩ : ByteArray)]) (t := 23) ?hr ?_; (case hd => rfl); (case hg => rfl); (case hr => first | (go_simp; done) | (go_simp; rfl)); intro gb350 hg w30 hbox hb; have n0_ := Aside0.mk (blk_below (g := gb336) (o := .cells #[.string a0_0, .int .i64 a0_1, .int .i64 a0_2, .int .i64 a0_3, .int .i64 a0_4, .int .i64 a0_5, .int .i64 a0_6, .string a0_7] 23 (0, 0)) (by (with_reducible repeat (first | refine blk_drewN ?_ _ | refine blk_drew ?_ | refine blk_alloc ?_ _)); exact BK336.out) hb); have n1_ := Aside0.mk (below_step (by repeat (first | (with_reducible first | exact HB.out | apply below_alloc | apply pw_below_drewN | apply below_drew1 | refine below_set ?_ GE336.out) | exact HB.out)) hb); have n2_ := Aside0.mk (hbox); have n3_ := Aside0.mk ((by rw [hg]; exact (below_size (by repeat (first | (with_reducible first | exact HB.out | apply below_alloc | apply pw_below_drewN | apply below_drew1 | refine below_set ?_ GE336.out) | exact HB.out))) : w.heap.size ≤ gb350)); have n4_ := Aside0.mk ((by rw [hg]; exact (below_size (by repeat (first | (with_reducible first | exact HB.out | apply below_alloc | apply pw_below_drewN | apply below_drew1 | refine below_set ?_ GE336.out) | exact HB.out))) : w.heap.size ≤ gb350)); have n5_ := Aside0.mk ((by rw [hg]; exact Nat.ne_of_lt (blk_lt (g := gb336) (o := .cells #[.string a0_0, .int .i64 a0_1, .int .i64 a0_2, .int .i64 a0_3, .int .i64 a0_4, .int .i64 a0_5, .int .i64 a0_6, .string a0_7] 23 (0, 0)) (by (with_reducible repeat (first | refine blk_drewN ?_ _ | refine blk_drew ?_ | refine blk_alloc ?_ _)); exact BK336.out)) : gb336 ≠ gb350)); have n6_ := Aside0.mk ((by rw [hg]; exact Nat.ne_of_gt (blk_lt (g := gb336) (o := .cells #[.string a0_0, .int .i64 a0_1, .int .i64 a0_2, .int .i64 a0_3, .int .i64 a0_4, .int .i64 a0_5, .int .i64 a0_6, .string a0_7] 23 (0, 0)) (by (with_reducible repeat (first | refine blk_drewN ?_ _ | refine blk_drew ?_ | refine blk_alloc ?_ _)); exact BK336.out)) : gb350 ≠ gb336)); clear BK336; clear HB; have BK336 := n0_; have HB := n1_; have BK350 := n2_; have GW350 := n3_; have GE350 := n4_; have NB336_350 := n5_; have NB350_336 := n6_; clear n0_ n1_ n2_ n3_ n4_ n5_ n6_; clear hb hbox hg; have hnb31 := NB350_336.out; have hnc31 := NB336_350.out; have hcz32_0 : w30.cell? ⟨gb350, 0, none⟩ = some (.string (⟨#[]⟩ : ByteArray)) := (blk_cell BK350.out 0).trans rfl; have hcz32_1 : w30.cell? ⟨gb350, 1, none⟩ = some (.int .i64 0) := (blk_cell BK350.out 1).trans rfl; have hcz32_2 : w30.cell? ⟨gb350, 2, none⟩ = some (.int .i64 0) := (blk_cell BK350.out 2).trans rfl; have hcz32_3 : w30.cell? ⟨gb350, 3, none⟩ = some (.int .i64 0) := (blk_cell BK350.out 3).trans rfl; have hcz32_4 : w30.cell? ⟨gb350, 4, none⟩ = some (.int .i64 0) := (blk_cell BK350.out 4).trans rfl; have hcz32_5 : w30.cell? ⟨gb350, 5, none⟩ = some (.int .i64 0) := (blk_cell BK350.out 5).trans rfl; have hcz32_6 : w30.cell? ⟨gb350, 6, none⟩ = some (.int .i64 0) := (blk_cell BK350.out 6).trans rfl; have hcz32_7 : w30.cell? ⟨gb350, 7, none⟩ = some (.string (⟨#[]⟩ : ByteArray)) := (blk_cell BK350.out 7).trans rfl; have hfz32_0 := blk_frozen BK350.out 0; have hfz32_1 := blk_frozen BK350.out 1; have hfz32_2 := blk_frozen BK350.out 2; have hfz32_3 := blk_frozen BK350.out 3; have hfz32_4 := blk_frozen BK350.out 4; have hfz32_5 := blk_frozen BK350.out 5; have hfz32_6 := blk_frozen BK350.out 6; have hfz32_7 := blk_frozen BK350.out 7; have hcz33_0 : w30.cell? ⟨gb336, 0, none⟩ = some (.string a0_0) := (blk_cell BK336.out 0).trans rfl; have hcz33_1 : w30.cell? ⟨gb336, 1, none⟩ = some (.int .i64 a0_1) := (blk_cell BK336.out 1).trans rfl; have hcz33_2 : w30.cell? ⟨gb336, 2, none⟩ = some (.int .i64 a0_2) := (blk_cell BK336.out 2).trans rfl; have hcz33_3 : w30.cell? ⟨gb336, 3, none⟩ = some (.int .i64 a0_3) := (blk_cell BK336.out 3).trans rfl; have hcz33_4 : w30.cell? ⟨gb336, 4, none⟩ = some (.int .i64 a0_4) := (blk_cell BK336.out 4).trans rfl; have hcz33_5 : w30.cell? ⟨gb336, 5, none⟩ = some (.int .i64 a0_5) := (blk_cell BK336.out 5).trans rfl; have hcz33_6 : w30.cell? ⟨gb336, 6, none⟩ = some (.int .i64 a0_6) := (blk_cell BK336.out 6).trans rfl; have hcz33_7 : w30.cell? ⟨gb336, 7, none⟩ = some (.string a0_7) := (blk_cell BK336.out 7).trans rfl; have hfz33_0 := blk_frozen BK336.out 0; have hfz33_1 := blk_frozen BK336.out 1; have hfz33_2 := blk_frozen BK336.out 2; have hfz33_3 := blk_frozen BK336.out 3; have hfz33_4 := blk_frozen BK336.out 4; have hfz33_5 := blk_frozen BK336.out 5; have hfz33_6 := blk_frozen BK336.out 6; have hfz33_7 := blk_frozen BK336.out 7) | (go_at_call 13; (with_reducible refine (dirrecord_Size.calls kj4 (a0_0.size : Int) (a0_7.size : Int) t351 _ A21.out).mono ?_); rintro e w' ⟨rfl, ⟨nd, rfl⟩⟩; have p24 : 0 ≤ (0 : Int) := (by omega); have q24 : 0 < t338.size := (by have : (0 : Int) < (t338.size : Int) := of_decide_eq_true (by first | (with_reducible assumption) | assumption); omega); have hx24 : ∀ h : 0 < t338.size, ((t338[0]'h).toNat : Int) = bt t338 0 := bt_at t338 0; clear p24; have qi24 : (0 < (t338.size : Int)) = True := eq_true (of_decide_eq_true (by first | (with_reducible assumption) | assumption)); replace q24 := eq_true q24) | (go_at_call 18; (with_reducible refine (dirrecord_Differ.calls kj4 t338 t352 _ A26.out).mono ?_); rintro e w34 ⟨v353, rfl, ho0, hb⟩; have n0_ := Aside0.mk (Kd.R_lower ho0 (below_size (by repeat (first | (with_reducible first | exact HB.out | apply below_alloc | apply pw_below_drewN | apply below_drew1 | refine below_set ?_ GE336.out | refine below_set ?_ GE350.out) | exact HB.out)))); have n1_ := Aside0.mk (blk_below (g := gb336) (o := .cells #[.string a0_0, .int .i64 a0_1, .int .i64 a0_2, .int .i64 a0_3, .int .i64 a0_4, .int .i64 a0_5, .int .i64 a0_6, .string a0_7] 23 (0, 0)) (by (with_reducible repeat (first | refine blk_drewN ?_ _ | refine blk_drew ?_ | refine blk_alloc ?_ _)); refine blk_far ?_ NB336_350.out _; (with_reducible repeat (first | refine blk_drewN ?_ _ | refine blk_drew ?_ | refine blk_alloc ?_ _)); refine blk_far ?_ NB336_350.out _; (with_reducible repeat (first | refine blk_drewN ?_ _ | refine blk_drew ?_ | refine blk_alloc ?_ _)); refine blk_far ?_ NB336_350.out _; (with_reducible repeat (first | refine blk_drewN ?_ _ | refine blk_drew ?_ | refine blk_alloc ?_ _)); refine blk_far ?_ NB336_350.out _; (with_reducible repeat (first | refine blk_drewN ?_ _ | refine blk_drew ?_ | refine blk_alloc ?_ _)); refine blk_far ?_ NB336_350.out _; (with_reducible repeat (first | refine blk_drewN ?_ _ | refine blk_drew ?_ | refine blk_alloc ?_ _)); refine blk_far ?_ NB336_350.out _; (with_reducible repeat (first | refine blk_drewN ?_ _ | refine blk_drew ?_ | refine blk_alloc ?_ _)); refine blk_far ?_ NB336_350.out _; (with_reducible repeat (first | refine blk_drewN ?_ _ | refine blk_drew ?_ | refine blk_alloc ?_ _)); refine blk_far ?_ NB336_350.out _; (with_reducible repeat (first | refine blk_drewN ?_ _ | refine blk_drew ?_ | refine blk_alloc ?_ _)); exact BK336.out) hb); have n2_ := Aside0.mk (blk_below (g := gb350) (o := .cells #[.string t340, .int .i64 t341, .int .i64 t342, .int .i64 t343, .int .i64 t344, .int .i64 t345, .int .i64 t346, .string t347] 23 (0, 0)) (by (with_reducible repeat (first | refine blk_drewN ?_ _ | refine blk_drew ?_ | refine blk_alloc ?_ _)); refine blk_put (cs := #[.string t340, .int .i64 t341, .int .i64 t342, .int .i64 t343, .int .i64 t344, .int .i64 t345, .int .i64 t346, .string (⟨#[]⟩ : ByteArray)]) ?_ 7 _ rfl; (with_reducible repeat (first | refine blk_drewN ?_ _ | refine blk_drew ?_ | refine blk_alloc ?_ _)); refine blk_put (cs := #[.string t340, .int .i64 t341, .int .i64 t342, .int .i64 t343, .int .i64 t344, .int .i64 t345, .int .i64 0, .string (⟨#[]⟩ : ByteArray)]) ?_ 6 _ rfl; (with_reducible repeat (first | refine blk_drewN ?_ _ | refine blk_drew ?_ | refine blk_alloc ?_ _)); refine blk_put (cs := #[.string t340, .int .i64 t341, .int .i64 t342, .int .i64 t343, .int .i64 t344, .int .i64 0, .int .i64 0, .string (⟨#[]⟩ : ByteArray)]) ?_ 5 _ rfl; (with_reducible repeat (first | refine blk_drewN ?_ _ | refine blk_drew ?_ | refine blk_alloc ?_ _)); refine blk_put (cs := #[.string t340, .int .i64 t341, .int .i64 t342, .int .i64 t343, .int .i64 0, .int .i64 0, .int .i64 0, .string (⟨#[]⟩ : ByteArray)]) ?_ 4 _ rfl; (with_reducible repeat (first | refine blk_drewN ?_ _ | refine blk_drew ?_ | refine blk_alloc ?_ _)); refine blk_put (cs := #[.string t340, .int .i64 t341, .int .i64 t342, .int .i64 0, .int .i64 0, .int .i64 0, .int .i64 0, .string (⟨#[]⟩ : ByteArray)]) ?_ 3 _ rfl; (with_reducible repeat (first | refine blk_drewN ?_ _ | refine blk_drew ?_ | refine blk_alloc ?_ _)); refine blk_put (cs := #[.string t340, .int .i64 t341, .int .i64 0, .int .i64 0, .int .i64 0, .int .i64 0, .int .i64 0, .string (⟨#[]⟩ : ByteArray)]) ?_ 2 _ rfl; (with_reducible repeat (first | refine blk_drewN ?_ _ | refine blk_drew ?_ | refine blk_alloc ?_ _)); refine blk_put (cs := #[.string t340, .int .i64 0, .int .i64 0, .int .i64 0, .int .i64 0, .int .i64 0, .int .i64 0, .string (⟨#[]⟩ : ByteArray)]) ?_ 1 _ rfl; (with_reducible repeat (first | refine blk_drewN ?_ _ | refine blk_drew ?_ | refine blk_alloc ?_ _)); refine blk_put (cs := #[.string (⟨#[]⟩ : ByteArray), .int .i64 0, .int .i64 0, .int .i64 0, .int .i64 0, .int .i64 0, .int .i64 0, .string (⟨#[]⟩ : ByteArray)]) ?_ 0 _ rfl; (with_reducible repeat (first | refine blk_drewN ?_ _ | refine blk_drew ?_ | refine blk_alloc ?_ _)); exact BK350.out) hb); have n3_ := Aside0.mk (below_step (by repeat (first | (with_reducible first | exact HB.out | apply below_alloc | apply pw_below_drewN | apply below_drew1 | refine below_set ?_ GE336.out | refine below_set ?_ GE350.out) | exact HB.out)) hb); clear BK336; clear BK350; clear HB; have HO354 := n0_; have BK336 := n1_; have BK350 := n2_; have HB := n3_; clear n0_ n1_ n2_ n3_; (try clear hb); (try clear hb2); (try clear hk); (try clear hi); (try clear ho0); obtain ⟨Ao35, co35, eo35⟩ := Kd.R_slice HO354.out; subst eo35))
                          go_ret
                          exact ⟨by first | rfl | (simp [errW_none, errW_some] <;> rfl) | (simp [*, errW_none, errW_some] <;> rfl), by repeat (first | (with_reducible first | exact HB.out | apply below_alloc | apply pw_below_drewN | apply below_drew1 | refine below_set ?_ GE336.out | refine below_set ?_ GE350.out) | exact HB.out)⟩
                        · rw [if_neg c25] at H
                          have c25b0 : ((wrap64 (bt t338 0)) == t348) = false := beq_eq_false_iff_ne.mpr c25
                          have c25b1 : ((wrap64 (bt t338 0)) != t348) = true := bne_iff_ne.mpr c25
                          obtain rfl := Option.some.inj H
                          have hcz36_0 : wc.cell? ⟨gb336, 0, none⟩ = some (.string a0_0) := (blk_cell BK336.out 0).trans rfl
                          have hcz36_1 : wc.cell? ⟨gb336, 1, none⟩ = some (.int .i64 a0_1) := (blk_cell BK336.out 1).trans rfl
                          have hcz36_2 : wc.cell? ⟨gb336, 2, none⟩ = some (.int .i64 a0_2) := (blk_cell BK336.out 2).trans rfl
                          have hcz36_3 : wc.cell? ⟨gb336, 3, none⟩ = some (.int .i64 a0_3) := (blk_cell BK336.out 3).trans rfl
                          have hcz36_4 : wc.cell? ⟨gb336, 4, none⟩ = some (.int .i64 a0_4) := (blk_cell BK336.out 4).trans rfl
                          have hcz36_5 : wc.cell? ⟨gb336, 5, none⟩ = some (.int .i64 a0_5) := (blk_cell BK336.out 5).trans rfl
                          have hcz36_6 : wc.cell? ⟨gb336, 6, none⟩ = some (.int .i64 a0_6) := (blk_cell BK336.out 6).trans rfl
                          have hcz36_7 : wc.cell? ⟨gb336, 7, none⟩ = some (.string a0_7) := (blk_cell BK336.out 7).trans rfl
                          have hfz36_0 := blk_frozen BK336.out 0
                          have hfz36_1 := blk_frozen BK336.out 1
                          have hfz36_2 := blk_frozen BK336.out 2
                          have hfz36_3 := blk_frozen BK336.out 3
                          have hfz36_4 := blk_frozen BK336.out 4
                          have hfz36_5 := blk_frozen BK336.out 5
                          have hfz36_6 := blk_frozen BK336.out 6
                          have hfz36_7 := blk_frozen BK336.out 7
                          go_wp2_with (first | ((with_reducible refine gate_callee (f := 11) rfl ?_); refine goesL_ (some 29) rfl rfl Try.func11 (by kernel_rfl) rfl #[.agg #[.string a0_0, .int .i64 a0_1, .int .i64 a0_2, .int .i64 a0_3, .int .i64 a0_4, .int .i64 a0_5, .int .i64 a0_6, .string a0_7]] rfl (by (try simp only [List.map_toArray, List.map_cons, List.map_nil]); first | done | rfl | (simp only [List.length_drop, List.length_take]; rfl)) ?_; (with_reducible refine (dirrecord_Encode.calls kj4 a0_0 a0_1 a0_2 a0_3 a0_4 a0_5 a0_6 a0_7 t338 t339 _ A14.out).mono ?_); rintro e w37 ⟨rfl, hb⟩; refine ⟨_, rfl, ?_⟩; have n0_ := Aside0.mk (blk_below (g := gb336) (o := .cells #[.string a0_0, .int .i64 a0_1, .int .i64 a0_2, .int .i64 a0_3, .int .i64 a0_4, .int .i64 a0_5, .int .i64 a0_6, .string a0_7] 23 (0, 0)) (by (with_reducible repeat (first | refine blk_drewN ?_ _ | refine blk_drew ?_ | refine blk_alloc ?_ _)); exact BK336.out) hb); have n1_ := Aside0.mk (below_step (by repeat (first | (with_reducible first | exact HB.out | apply below_alloc | apply pw_below_drewN | apply below_drew1 | refine below_set ?_ GE336.out) | exact HB.out)) hb); clear BK336; clear HB; have BK336 := n0_; have HB := n1_; clear n0_ n1_; (try clear hb); (try clear hb2); (try clear hk); (try clear hi)) | ((with_reducible refine gate_callee (f := 15) rfl ?_); refine goesL_ (some 40) rfl rfl Try.func15 (by kernel_rfl) rfl #[.string (t338 ++ a1)] rfl (by (try simp only [List.map_toArray, List.map_cons, List.map_nil]); first | done | rfl | (simp only [List.length_drop, List.length_take]; rfl)) ?_; (with_reducible refine (dirrecord_Decode.calls kj4 (t338 ++ a1) t340 t341 t342 t343 t344 t345 t346 t347 t348 t349 _ A17.out).mono ?_); rintro e w38 ⟨rfl, hb⟩; refine ⟨_, rfl, ?_⟩; have n0_ := Aside0.mk (blk_below (g := gb336) (o := .cells #[.string a0_0, .int .i64 a0_1, .int .i64 a0_2, .int .i64 a0_3, .int .i64 a0_4, .int .i64 a0_5, .int .i64 a0_6, .string a0_7] 23 (0, 0)) (by (with_reducible repeat (first | refine blk_drewN ?_ _ | refine blk_drew ?_ | refine blk_alloc ?_ _)); exact BK336.out) hb); have n1_ := Aside0.mk (below_step (by repeat (first | (with_reducible first | exact HB.out | apply below_alloc | apply pw_below_drewN | apply below_drew1 | refine below_set ?_ GE336.out) | exact HB.out)) hb); clear BK336; clear HB; have BK336 := n0_; have HB := n1_; clear n0_ n1_; (try clear hb); (try clear hb2); (try clear hk); (try clear hi)) | ((with_reducible refine gate_dst (N := 7) rfl ?_); (try (refine gate_guard (by rfl) ?_; dsimp only)); refine box_event ?hg (N := 7) ?hd (cs := #[.string (⟨#[]⟩ : ByteArray), .int .i64 0, .int .i64 0, .int .i64 0, .int .i64 0, .int .i64 0, .int .i64 0, .string (⟨#[]⟩ : ByteArray)]) (t := 23) ?hr ?_; (case hd => rfl); (case hg => rfl); (case hr => first | (go_simp; done) | (go_simp; rfl)); intro gb350 hg w39 hbox hb; have n0_ := Aside0.mk (blk_below (g := gb336) (o := .cells #[.string a0_0, .int .i64 a0_1, .int .i64 a0_2, .int .i64 a0_3, .int .i64 a0_4, .int .i64 a0_5, .int .i64 a0_6, .string a0_7] 23 (0, 0)) (by (with_reducible repeat (first | refine blk_drewN ?_ _ | refine blk_drew ?_ | refine blk_alloc ?_ _)); exact BK336.out) hb); have n1_ := Aside0.mk (below_step (by repeat (first | (with_reducible first | exact HB.out | apply below_alloc | apply pw_below_drewN | apply below_drew1 | refine below_set ?_ GE336.out) | exact HB.out)) hb); have n2_ := Aside0.mk (hbox); have n3_ := Aside0.mk ((by rw [hg]; exact (below_size (by repeat (first | (with_reducible first | exact HB.out | apply below_alloc | apply pw_below_drewN | apply below_drew1 | refine below_set ?_ GE336.out) | exact HB.out))) : w.heap.size ≤ gb350)); have n4_ := Aside0.mk ((by rw [hg]; exact (below_size (by repeat (first | (with_reducible first | exact HB.out | apply below_alloc | apply pw_below_drewN | apply below_drew1 | refine below_set ?_ GE336.out) | exact HB.out))) : w.heap.size ≤ gb350)); have n5_ := Aside0.mk ((by rw [hg]; exact Nat.ne_of_lt (blk_lt (g := gb336) (o := .cells #[.string a0_0, .int .i64 a0_1, .int .i64 a0_2, .int .i64 a0_3, .int .i64 a0_4, .int .i64 a0_5, .int .i64 a0_6, .string a0_7] 23 (0, 0)) (by (with_reducible repeat (first | refine blk_drewN ?_ _ | refine blk_drew ?_ | refine blk_alloc ?_ _)); exact BK336.out)) : gb336 ≠ gb350)); have n6_ := Aside0.mk ((by rw [hg]; exact Nat.ne_of_gt (blk_lt (g := gb336) (o := .cells #[.string a0_0, .int .i64 a0_1, .int .i64 a0_2, .int .i64 a0_3, .int .i64 a0_4, .int .i64 a0_5, .int .i64 a0_6, .string a0_7] 23 (0, 0)) (by (with_reducible repeat (first | refine blk_drewN ?_ _ | refine blk_drew ?_ | refine blk_alloc ?_ _)); exact BK336.out)) : gb350 ≠ gb336)); clear BK336; clear HB; have BK336 := n0_; have HB := n1_; have BK350 := n2_; have GW350 := n3_; have GE350 := n4_; have NB336_350 := n5_; have NB350_336 := n6_; clear n0_ n1_ n2_ n3_ n4_ n5_ n6_; clear hb hbox hg; have hnb40 := NB350_336.out; have hnc40 := NB336_350.out; have hcz41_0 : w39.cell? ⟨gb350, 0, none⟩ = some (.string (⟨#[]⟩ : ByteArray)) := (blk_cell BK350.out 0).trans rfl; have hcz41_1 : w39.cell? ⟨gb350, 1, none⟩ = some (.int .i64 0) := (blk_cell BK350.out 1).trans rfl; have hcz41_2 : w39.cell? ⟨gb350, 2, none⟩ = some (.int .i64 0) := (blk_cell BK350.out 2).trans rfl; have hcz41_3 : w39.cell? ⟨gb350, 3, none⟩ = some (.int .i64 0) := (blk_cell BK350.out 3).trans rfl; have hcz41_4 : w39.cell? ⟨gb350, 4, none⟩ = some (.int .i64 0) := (blk_cell BK350.out 4).trans rfl; have hcz41_5 : w39.cell? ⟨gb350, 5, none⟩ = some (.int .i64 0) := (blk_cell BK350.out 5).trans rfl; have hcz41_6 : w39.cell? ⟨gb350, 6, none⟩ = some (.int .i64 0) := (blk_cell BK350.out 6).trans rfl; have hcz41_7 : w39.cell? ⟨gb350, 7, none⟩ = some (.string (⟨#[]⟩ : ByteArray)) := (blk_cell BK350.out 7).trans rfl; have hfz41_0 := blk_frozen BK350.out 0; have hfz41_1 := blk_frozen BK350.out 1; have hfz41_2 := blk_frozen BK350.out 2; have hfz41_3 := blk_frozen BK350.out 3; have hfz41_4 := blk_frozen BK350.out 4; have hfz41_5 := blk_frozen BK350.out 5; have hfz41_6 := blk_frozen BK350.out 6; have hfz41_7 := blk_frozen BK350.out 7; have hcz42_0 : w39.cell? ⟨gb336, 0, none⟩ = some (.string a0_0) := (blk_cell BK336.out 0).trans rfl; have hcz42_1 : w39.cell? ⟨gb336, 1, none⟩ = some (.int .i64 a0_1) := (blk_cell BK336.out 1).trans rfl; have hcz42_2 : w39.cell? ⟨gb336, 2, none⟩ = some (.int .i64 a0_2) := (blk_cell BK336.out 2).trans rfl; have hcz42_3 : w39.cell? ⟨gb336, 3, none⟩ = some (.int .i64 a0_3) := (blk_cell BK336.out 3).trans rfl; have hcz42_4 : w39.cell? ⟨gb336, 4, none⟩ = some (.int .i64 a0_4) := (blk_cell BK336.out 4).trans rfl; have hcz42_5 : w39.cell? ⟨gb336, 5, none⟩ = some (.int .i64 a0_5) := (blk_cell BK336.out 5).trans rfl; have hcz42_6 : w39.cell? ⟨gb336, 6, none⟩ = some (.int .i64 a0_6) := (blk_cell BK336.out 6).trans rfl; have hcz42_7 : w39.cell? ⟨gb336, 7, none⟩ = some (.string a0_7) := (blk_cell BK336.out 7).trans rfl; have hfz42_0 := blk_frozen BK336.out 0; have hfz42_1 := blk_frozen BK336.out 1; have hfz42_2 := blk_frozen BK336.out 2; have hfz42_3 := blk_frozen BK336.out 3; have hfz42_4 := blk_frozen BK336.out 4; have hfz42_5 := blk_frozen BK336.out 5; have hfz42_6 := blk_frozen BK336.out 6; have hfz42_7 := blk_frozen BK336.out 7) | (go_at_call 13; (with_reducible refine (dirrecord_Size.calls kj4 (a0_0.size : Int) (a0_7.size : Int) t351 _ A21.out).mono ?_); rintro e w' ⟨rfl, ⟨nd, rfl⟩⟩; have p24 : 0 ≤ (0 : Int) := (by omega); have q24 : 0 < t338.size := (by have : (0 : Int) < (t338.size : Int) := of_decide_eq_true (by first | (with_reducible assumption) | assumption); omega); have hx24 : ∀ h : 0 < t338.size, ((t338[0]'h).toNat : Int) = bt t338 0 := bt_at t338 0; clear p24; have qi24 : (0 < (t338.size : Int)) = True := eq_true (of_decide_eq_true (by first | (with_reducible assumption) | assumption)); replace q24 := eq_true q24))
                          go_ret
                          exact ⟨by first | rfl | (simp [errW_none, errW_some] <;> rfl) | (simp [*, errW_none, errW_some] <;> rfl), by repeat (first | (with_reducible first | exact HB.out | apply below_alloc | apply pw_below_drewN | apply below_drew1 | refine below_set ?_ GE336.out | refine below_set ?_ GE350.out) | exact HB.out)⟩
                      · rw [if_neg c23] at H
                        exact absurd H (by simp)
                    · rw [if_neg c22] at H
                      have c22b0 : (t348 == t351) = false := beq_eq_false_iff_ne.mpr c22
                      have c22b1 : (t348 != t351) = true := bne_iff_ne.mpr c22
                      obtain rfl := Option.some.inj H
                      have hcz43_0 : wc.cell? ⟨gb336, 0, none⟩ = some (.string a0_0) := (blk_cell BK336.out 0).trans rfl
                      have hcz43_1 : wc.cell? ⟨gb336, 1, none⟩ = some (.int .i64 a0_1) := (blk_cell BK336.out 1).trans rfl
                      have hcz43_2 : wc.cell? ⟨gb336, 2, none⟩ = some (.int .i64 a0_2) := (blk_cell BK336.out 2).trans rfl
                      have hcz43_3 : wc.cell? ⟨gb336, 3, none⟩ = some (.int .i64 a0_3) := (blk_cell BK336.out 3).trans rfl
                      have hcz43_4 : wc.cell? ⟨gb336, 4, none⟩ = some (.int .i64 a0_4) := (blk_cell BK336.out 4).trans rfl
                      have hcz43_5 : wc.cell? ⟨gb336, 5, none⟩ = some (.int .i64 a0_5) := (blk_cell BK336.out 5).trans rfl
                      have hcz43_6 : wc.cell? ⟨gb336, 6, none⟩ = some (.int .i64 a0_6) := (blk_cell BK336.out 6).trans rfl
                      have hcz43_7 : wc.cell? ⟨gb336, 7, none⟩ = some (.string a0_7) := (blk_cell BK336.out 7).trans rfl
                      have hfz43_0 := blk_frozen BK336.out 0
                      have hfz43_1 := blk_frozen BK336.out 1
                      have hfz43_2 := blk_frozen BK336.out 2
                      have hfz43_3 := blk_frozen BK336.out 3
                      have hfz43_4 := blk_frozen BK336.out 4
                      have hfz43_5 := blk_frozen BK336.out 5
                      have hfz43_6 := blk_frozen BK336.out 6
                      have hfz43_7 := blk_frozen BK336.out 7
                      go_wp2_with (first | ((with_reducible refine gate_callee (f := 11) rfl ?_); refine goesL_ (some 29) rfl rfl Try.func11 (by kernel_rfl) rfl #[.agg #[.string a0_0, .int .i64 a0_1, .int .i64 a0_2, .int .i64 a0_3, .int .i64 a0_4, .int .i64 a0_5, .int .i64 a0_6, .string a0_7]] rfl (by (try simp only [List.map_toArray, List.map_cons, List.map_nil]); first | done | rfl | (simp only [List.length_drop, List.length_take]; rfl)) ?_; (with_reducible refine (dirrecord_Encode.calls kj4 a0_0 a0_1 a0_2 a0_3 a0_4 a0_5 a0_6 a0_7 t338 t339 _ A14.out).mono ?_); rintro e w44 ⟨rfl, hb⟩; refine ⟨_, rfl, ?_⟩; have n0_ := Aside0.mk (blk_below (g := gb336) (o := .cells #[.string a0_0, .int .i64 a0_1, .int .i64 a0_2, .int .i64 a0_3, .int .i64 a0_4, .int .i64 a0_5, .int .i64 a0_6, .string a0_7] 23 (0, 0)) (by (with_reducible repeat (first | refine blk_drewN ?_ _ | refine blk_drew ?_ | refine blk_alloc ?_ _)); exact BK336.out) hb); have n1_ := Aside0.mk (below_step (by repeat (first | (with_reducible first | exact HB.out | apply below_alloc | apply pw_below_drewN | apply below_drew1 | refine below_set ?_ GE336.out) | exact HB.out)) hb); clear BK336; clear HB; have BK336 := n0_; have HB := n1_; clear n0_ n1_; (try clear hb); (try clear hb2); (try clear hk); (try clear hi)) | ((with_reducible refine gate_callee (f := 15) rfl ?_); refine goesL_ (some 40) rfl rfl Try.func15 (by kernel_rfl) rfl #[.string (t338 ++ a1)] rfl (by (try simp only [List.map_toArray, List.map_cons, List.map_nil]); first | done | rfl | (simp only [List.length_drop, List.length_take]; rfl)) ?_; (with_reducible refine (dirrecord_Decode.calls kj4 (t338 ++ a1) t340 t341 t342 t343 t344 t345 t346 t347 t348 t349 _ A17.out).mono ?_); rintro e w45 ⟨rfl, hb⟩; refine ⟨_, rfl, ?_⟩; have n0_ := Aside0.mk (blk_below (g := gb336) (o := .cells #[.string a0_0, .int .i64 a0_1, .int .i64 a0_2, .int .i64 a0_3, .int .i64 a0_4, .int .i64 a0_5, .int .i64 a0_6, .string a0_7] 23 (0, 0)) (by (with_reducible repeat (first | refine blk_drewN ?_ _ | refine blk_drew ?_ | refine blk_alloc ?_ _)); exact BK336.out) hb); have n1_ := Aside0.mk (below_step (by repeat (first | (with_reducible first | exact HB.out | apply below_alloc | apply pw_below_drewN | apply below_drew1 | refine below_set ?_ GE336.out) | exact HB.out)) hb); clear BK336; clear HB; have BK336 := n0_; have HB := n1_; clear n0_ n1_; (try clear hb); (try clear hb2); (try clear hk); (try clear hi)) | ((with_reducible refine gate_dst (N := 7) rfl ?_); (try (refine gate_guard (by rfl) ?_; dsimp only)); refine box_event ?hg (N := 7) ?hd (cs := #[.string (⟨#[]⟩ : ByteArray), .int .i64 0, .int .i64 0, .int .i64 0, .int .i64 0, .int .i64 0, .int .i64 0, .string (⟨#[]⟩ : ByteArray)]) (t := 23) ?hr ?_; (case hd => rfl); (case hg => rfl); (case hr => first | (go_simp; done) | (go_simp; rfl)); intro gb350 hg w46 hbox hb; have n0_ := Aside0.mk (blk_below (g := gb336) (o := .cells #[.string a0_0, .int .i64 a0_1, .int .i64 a0_2, .int .i64 a0_3, .int .i64 a0_4, .int .i64 a0_5, .int .i64 a0_6, .string a0_7] 23 (0, 0)) (by (with_reducible repeat (first | refine blk_drewN ?_ _ | refine blk_drew ?_ | refine blk_alloc ?_ _)); exact BK336.out) hb); have n1_ := Aside0.mk (below_step (by repeat (first | (with_reducible first | exact HB.out | apply below_alloc | apply pw_below_drewN | apply below_drew1 | refine below_set ?_ GE336.out) | exact HB.out)) hb); have n2_ := Aside0.mk (hbox); have n3_ := Aside0.mk ((by rw [hg]; exact (below_size (by repeat (first | (with_reducible first | exact HB.out | apply below_alloc | apply pw_below_drewN | apply below_drew1 | refine below_set ?_ GE336.out) | exact HB.out))) : w.heap.size ≤ gb350)); have n4_ := Aside0.mk ((by rw [hg]; exact (below_size (by repeat (first | (with_reducible first | exact HB.out | apply below_alloc | apply pw_below_drewN | apply below_drew1 | refine below_set ?_ GE336.out) | exact HB.out))) : w.heap.size ≤ gb350)); have n5_ := Aside0.mk ((by rw [hg]; exact Nat.ne_of_lt (blk_lt (g := gb336) (o := .cells #[.string a0_0, .int .i64 a0_1, .int .i64 a0_2, .int .i64 a0_3, .int .i64 a0_4, .int .i64 a0_5, .int .i64 a0_6, .string a0_7] 23 (0, 0)) (by (with_reducible repeat (first | refine blk_drewN ?_ _ | refine blk_drew ?_ | refine blk_alloc ?_ _)); exact BK336.out)) : gb336 ≠ gb350)); have n6_ := Aside0.mk ((by rw [hg]; exact Nat.ne_of_gt (blk_lt (g := gb336) (o := .cells #[.string a0_0, .int .i64 a0_1, .int .i64 a0_2, .int .i64 a0_3, .int .i64 a0_4, .int .i64 a0_5, .int .i64 a0_6, .string a0_7] 23 (0, 0)) (by (with_reducible repeat (first | refine blk_drewN ?_ _ | refine blk_drew ?_ | refine blk_alloc ?_ _)); exact BK336.out)) : gb350 ≠ gb336)); clear BK336; clear HB; have BK336 := n0_; have HB := n1_; have BK350 := n2_; have GW350 := n3_; have GE350 := n4_; have NB336_350 := n5_; have NB350_336 := n6_; clear n0_ n1_ n2_ n3_ n4_ n5_ n6_; clear hb hbox hg; have hnb47 := NB350_336.out; have hnc47 := NB336_350.out; have hcz48_0 : w46.cell? ⟨gb350, 0, none⟩ = some (.string (⟨#[]⟩ : ByteArray)) := (blk_cell BK350.out 0).trans rfl; have hcz48_1 : w46.cell? ⟨gb350, 1, none⟩ = some (.int .i64 0) := (blk_cell BK350.out 1).trans rfl; have hcz48_2 : w46.cell? ⟨gb350, 2, none⟩ = some (.int .i64 0) := (blk_cell BK350.out 2).trans rfl; have hcz48_3 : w46.cell? ⟨gb350, 3, none⟩ = some (.int .i64 0) := (blk_cell BK350.out 3).trans rfl; have hcz48_4 : w46.cell? ⟨gb350, 4, none⟩ = some (.int .i64 0) := (blk_cell BK350.out 4).trans rfl; have hcz48_5 : w46.cell? ⟨gb350, 5, none⟩ = some (.int .i64 0) := (blk_cell BK350.out 5).trans rfl; have hcz48_6 : w46.cell? ⟨gb350, 6, none⟩ = some (.int .i64 0) := (blk_cell BK350.out 6).trans rfl; have hcz48_7 : w46.cell? ⟨gb350, 7, none⟩ = some (.string (⟨#[]⟩ : ByteArray)) := (blk_cell BK350.out 7).trans rfl; have hfz48_0 := blk_frozen BK350.out 0; have hfz48_1 := blk_frozen BK350.out 1; have hfz48_2 := blk_frozen BK350.out 2; have hfz48_3 := blk_frozen BK350.out 3; have hfz48_4 := blk_frozen BK350.out 4; have hfz48_5 := blk_frozen BK350.out 5; have hfz48_6 := blk_frozen BK350.out 6; have hfz48_7 := blk_frozen BK350.out 7; have hcz49_0 : w46.cell? ⟨gb336, 0, none⟩ = some (.string a0_0) := (blk_cell BK336.out 0).trans rfl; have hcz49_1 : w46.cell? ⟨gb336, 1, none⟩ = some (.int .i64 a0_1) := (blk_cell BK336.out 1).trans rfl; have hcz49_2 : w46.cell? ⟨gb336, 2, none⟩ = some (.int .i64 a0_2) := (blk_cell BK336.out 2).trans rfl; have hcz49_3 : w46.cell? ⟨gb336, 3, none⟩ = some (.int .i64 a0_3) := (blk_cell BK336.out 3).trans rfl; have hcz49_4 : w46.cell? ⟨gb336, 4, none⟩ = some (.int .i64 a0_4) := (blk_cell BK336.out 4).trans rfl; have hcz49_5 : w46.cell? ⟨gb336, 5, none⟩ = some (.int .i64 a0_5) := (blk_cell BK336.out 5).trans rfl; have hcz49_6 : w46.cell? ⟨gb336, 6, none⟩ = some (.int .i64 a0_6) := (blk_cell BK336.out 6).trans rfl; have hcz49_7 : w46.cell? ⟨gb336, 7, none⟩ = some (.string a0_7) := (blk_cell BK336.out 7).trans rfl; have hfz49_0 := blk_frozen BK336.out 0; have hfz49_1 := blk_frozen BK336.out 1; have hfz49_2 := blk_frozen BK336.out 2; have hfz49_3 := blk_frozen BK336.out 3; have hfz49_4 := blk_frozen BK336.out 4; have hfz49_5 := blk_frozen BK336.out 5; have hfz49_6 := blk_frozen BK336.out 6; have hfz49_7 := blk_frozen BK336.out 7) | (go_at_call 13; (with_reducible refine (dirrecord_Size.calls kj4 (a0_0.size : Int) (a0_7.size : Int) t351 _ A21.out).mono ?_); rintro e w' ⟨rfl, ⟨nd, rfl⟩⟩))
                      go_ret
                      exact ⟨by first | rfl | (simp [errW_none, errW_some] <;> rfl) | (simp [*, errW_none, errW_some] <;> rfl), by repeat (first | (with_reducible first | exact HB.out | apply below_alloc | apply pw_below_drewN | apply below_drew1 | refine below_set ?_ GE336.out | refine below_set ?_ GE350.out) | exact HB.out)⟩
                  · rw [if_neg c20] at H
                    have c20b0 : (t348 == (t338.size : Int)) = false := beq_eq_false_iff_ne.mpr c20
                    have c20b1 : (t348 != (t338.size : Int)) = true := bne_iff_ne.mpr c20
                    obtain rfl := Option.some.inj H
                    have hcz50_0 : wc.cell? ⟨gb336, 0, none⟩ = some (.string a0_0) := (blk_cell BK336.out 0).trans rfl
                    have hcz50_1 : wc.cell? ⟨gb336, 1, none⟩ = some (.int .i64 a0_1) := (blk_cell BK336.out 1).trans rfl
                    have hcz50_2 : wc.cell? ⟨gb336, 2, none⟩ = some (.int .i64 a0_2) := (blk_cell BK336.out 2).trans rfl
                    have hcz50_3 : wc.cell? ⟨gb336, 3, none⟩ = some (.int .i64 a0_3) := (blk_cell BK336.out 3).trans rfl
                    have hcz50_4 : wc.cell? ⟨gb336, 4, none⟩ = some (.int .i64 a0_4) := (blk_cell BK336.out 4).trans rfl
                    have hcz50_5 : wc.cell? ⟨gb336, 5, none⟩ = some (.int .i64 a0_5) := (blk_cell BK336.out 5).trans rfl
                    have hcz50_6 : wc.cell? ⟨gb336, 6, none⟩ = some (.int .i64 a0_6) := (blk_cell BK336.out 6).trans rfl
                    have hcz50_7 : wc.cell? ⟨gb336, 7, none⟩ = some (.string a0_7) := (blk_cell BK336.out 7).trans rfl
                    have hfz50_0 := blk_frozen BK336.out 0
                    have hfz50_1 := blk_frozen BK336.out 1
                    have hfz50_2 := blk_frozen BK336.out 2
                    have hfz50_3 := blk_frozen BK336.out 3
                    have hfz50_4 := blk_frozen BK336.out 4
                    have hfz50_5 := blk_frozen BK336.out 5
                    have hfz50_6 := blk_frozen BK336.out 6
                    have hfz50_7 := blk_frozen BK336.out 7
                    go_wp2_with (first | ((with_reducible refine gate_callee (f := 11) rfl ?_); refine goesL_ (some 29) rfl rfl Try.func11 (by kernel_rfl) rfl #[.agg #[.string a0_0, .int .i64 a0_1, .int .i64 a0_2, .int .i64 a0_3, .int .i64 a0_4, .int .i64 a0_5, .int .i64 a0_6, .string a0_7]] rfl (by (try simp only [List.map_toArray, List.map_cons, List.map_nil]); first | done | rfl | (simp only [List.length_drop, List.length_take]; rfl)) ?_; (with_reducible refine (dirrecord_Encode.calls kj4 a0_0 a0_1 a0_2 a0_3 a0_4 a0_5 a0_6 a0_7 t338 t339 _ A14.out).mono ?_); rintro e w51 ⟨rfl, hb⟩; refine ⟨_, rfl, ?_⟩; have n0_ := Aside0.mk (blk_below (g := gb336) (o := .cells #[.string a0_0, .int .i64 a0_1, .int .i64 a0_2, .int .i64 a0_3, .int .i64 a0_4, .int .i64 a0_5, .int .i64 a0_6, .string a0_7] 23 (0, 0)) (by (with_reducible repeat (first | refine blk_drewN ?_ _ | refine blk_drew ?_ | refine blk_alloc ?_ _)); exact BK336.out) hb); have n1_ := Aside0.mk (below_step (by repeat (first | (with_reducible first | exact HB.out | apply below_alloc | apply pw_below_drewN | apply below_drew1 | refine below_set ?_ GE336.out) | exact HB.out)) hb); clear BK336; clear HB; have BK336 := n0_; have HB := n1_; clear n0_ n1_; (try clear hb); (try clear hb2); (try clear hk); (try clear hi)) | ((with_reducible refine gate_callee (f := 15) rfl ?_); refine goesL_ (some 40) rfl rfl Try.func15 (by kernel_rfl) rfl #[.string (t338 ++ a1)] rfl (by (try simp only [List.map_toArray, List.map_cons, List.map_nil]); first | done | rfl | (simp only [List.length_drop, List.length_take]; rfl)) ?_; (with_reducible refine (dirrecord_Decode.calls kj4 (t338 ++ a1) t340 t341 t342 t343 t344 t345 t346 t347 t348 t349 _ A17.out).mono ?_); rintro e w52 ⟨rfl, hb⟩; refine ⟨_, rfl, ?_⟩; have n0_ := Aside0.mk (blk_below (g := gb336) (o := .cells #[.string a0_0, .int .i64 a0_1, .int .i64 a0_2, .int .i64 a0_3, .int .i64 a0_4, .int .i64 a0_5, .int .i64 a0_6, .string a0_7] 23 (0, 0)) (by (with_reducible repeat (first | refine blk_drewN ?_ _ | refine blk_drew ?_ | refine blk_alloc ?_ _)); exact BK336.out) hb); have n1_ := Aside0.mk (below_step (by repeat (first | (with_reducible first | exact HB.out | apply below_alloc | apply pw_below_drewN | apply below_drew1 | refine below_set ?_ GE336.out) | exact HB.out)) hb); clear BK336; clear HB; have BK336 := n0_; have HB := n1_; clear n0_ n1_; (try clear hb); (try clear hb2); (try clear hk); (try clear hi)) | ((with_reducible refine gate_dst (N := 7) rfl ?_); (try (refine gate_guard (by rfl) ?_; dsimp only)); refine box_event ?hg (N := 7) ?hd (cs := #[.string (⟨#[]⟩ : ByteArray), .int .i64 0, .int .i64 0, .int .i64 0, .int .i64 0, .int .i64 0, .int .i64 0, .string (⟨#[]⟩ : ByteArray)]) (t := 23) ?hr ?_; (case hd => rfl); (case hg => rfl); (case hr => first | (go_simp; done) | (go_simp; rfl)); intro gb350 hg w53 hbox hb; have n0_ := Aside0.mk (blk_below (g := gb336) (o := .cells #[.string a0_0, .int .i64 a0_1, .int .i64 a0_2, .int .i64 a0_3, .int .i64 a0_4, .int .i64 a0_5, .int .i64 a0_6, .string a0_7] 23 (0, 0)) (by (with_reducible repeat (first | refine blk_drewN ?_ _ | refine blk_drew ?_ | refine blk_alloc ?_ _)); exact BK336.out) hb); have n1_ := Aside0.mk (below_step (by repeat (first | (with_reducible first | exact HB.out | apply below_alloc | apply pw_below_drewN | apply below_drew1 | refine below_set ?_ GE336.out) | exact HB.out)) hb); have n2_ := Aside0.mk (hbox); have n3_ := Aside0.mk ((by rw [hg]; exact (below_size (by repeat (first | (with_reducible first | exact HB.out | apply below_alloc | apply pw_below_drewN | apply below_drew1 | refine below_set ?_ GE336.out) | exact HB.out))) : w.heap.size ≤ gb350)); have n4_ := Aside0.mk ((by rw [hg]; exact (below_size (by repeat (first | (with_reducible first | exact HB.out | apply below_alloc | apply pw_below_drewN | apply below_drew1 | refine below_set ?_ GE336.out) | exact HB.out))) : w.heap.size ≤ gb350)); have n5_ := Aside0.mk ((by rw [hg]; exact Nat.ne_of_lt (blk_lt (g := gb336) (o := .cells #[.string a0_0, .int .i64 a0_1, .int .i64 a0_2, .int .i64 a0_3, .int .i64 a0_4, .int .i64 a0_5, .int .i64 a0_6, .string a0_7] 23 (0, 0)) (by (with_reducible repeat (first | refine blk_drewN ?_ _ | refine blk_drew ?_ | refine blk_alloc ?_ _)); exact BK336.out)) : gb336 ≠ gb350)); have n6_ := Aside0.mk ((by rw [hg]; exact Nat.ne_of_gt (blk_lt (g := gb336) (o := .cells #[.string a0_0, .int .i64 a0_1, .int .i64 a0_2, .int .i64 a0_3, .int .i64 a0_4, .int .i64 a0_5, .int .i64 a0_6, .string a0_7] 23 (0, 0)) (by (with_reducible repeat (first | refine blk_drewN ?_ _ | refine blk_drew ?_ | refine blk_alloc ?_ _)); exact BK336.out)) : gb350 ≠ gb336)); clear BK336; clear HB; have BK336 := n0_; have HB := n1_; have BK350 := n2_; have GW350 := n3_; have GE350 := n4_; have NB336_350 := n5_; have NB350_336 := n6_; clear n0_ n1_ n2_ n3_ n4_ n5_ n6_; clear hb hbox hg; have hnb54 := NB350_336.out; have hnc54 := NB336_350.out; have hcz55_0 : w53.cell? ⟨gb350, 0, none⟩ = some (.string (⟨#[]⟩ : ByteArray)) := (blk_cell BK350.out 0).trans rfl; have hcz55_1 : w53.cell? ⟨gb350, 1, none⟩ = some (.int .i64 0) := (blk_cell BK350.out 1).trans rfl; have hcz55_2 : w53.cell? ⟨gb350, 2, none⟩ = some (.int .i64 0) := (blk_cell BK350.out 2).trans rfl; have hcz55_3 : w53.cell? ⟨gb350, 3, none⟩ = some (.int .i64 0) := (blk_cell BK350.out 3).trans rfl; have hcz55_4 : w53.cell? ⟨gb350, 4, none⟩ = some (.int .i64 0) := (blk_cell BK350.out 4).trans rfl; have hcz55_5 : w53.cell? ⟨gb350, 5, none⟩ = some (.int .i64 0) := (blk_cell BK350.out 5).trans rfl; have hcz55_6 : w53.cell? ⟨gb350, 6, none⟩ = some (.int .i64 0) := (blk_cell BK350.out 6).trans rfl; have hcz55_7 : w53.cell? ⟨gb350, 7, none⟩ = some (.string (⟨#[]⟩ : ByteArray)) := (blk_cell BK350.out 7).trans rfl; have hfz55_0 := blk_frozen BK350.out 0; have hfz55_1 := blk_frozen BK350.out 1; have hfz55_2 := blk_frozen BK350.out 2; have hfz55_3 := blk_frozen BK350.out 3; have hfz55_4 := blk_frozen BK350.out 4; have hfz55_5 := blk_frozen BK350.out 5; have hfz55_6 := blk_frozen BK350.out 6; have hfz55_7 := blk_frozen BK350.out 7; have hcz56_0 : w53.cell? ⟨gb336, 0, none⟩ = some (.string a0_0) := (blk_cell BK336.out 0).trans rfl; have hcz56_1 : w53.cell? ⟨gb336, 1, none⟩ = some (.int .i64 a0_1) := (blk_cell BK336.out 1).trans rfl; have hcz56_2 : w53.cell? ⟨gb336, 2, none⟩ = some (.int .i64 a0_2) := (blk_cell BK336.out 2).trans rfl; have hcz56_3 : w53.cell? ⟨gb336, 3, none⟩ = some (.int .i64 a0_3) := (blk_cell BK336.out 3).trans rfl; have hcz56_4 : w53.cell? ⟨gb336, 4, none⟩ = some (.int .i64 a0_4) := (blk_cell BK336.out 4).trans rfl; have hcz56_5 : w53.cell? ⟨gb336, 5, none⟩ = some (.int .i64 a0_5) := (blk_cell BK336.out 5).trans rfl; have hcz56_6 : w53.cell? ⟨gb336, 6, none⟩ = some (.int .i64 a0_6) := (blk_cell BK336.out 6).trans rfl; have hcz56_7 : w53.cell? ⟨gb336, 7, none⟩ = some (.string a0_7) := (blk_cell BK336.out 7).trans rfl; have hfz56_0 := blk_frozen BK336.out 0; have hfz56_1 := blk_frozen BK336.out 1; have hfz56_2 := blk_frozen BK336.out 2; have hfz56_3 := blk_frozen BK336.out 3; have hfz56_4 := blk_frozen BK336.out 4; have hfz56_5 := blk_frozen BK336.out 5; have hfz56_6 := blk_frozen BK336.out 6; have hfz56_7 := blk_frozen BK336.out 7))
                    go_ret
                    exact ⟨by first | rfl | (simp [errW_none, errW_some] <;> rfl) | (simp [*, errW_none, errW_some] <;> rfl), by repeat (first | (with_reducible first | exact HB.out | apply below_alloc | apply pw_below_drewN | apply below_drew1 | refine below_set ?_ GE336.out | refine below_set ?_ GE350.out) | exact HB.out)⟩
                · rw [if_neg c19] at H
                  have c19b0 : (t340.toList == a0_0.toList && (t341 == a0_1 && (t342 == a0_2 && (t343 == a0_3 && (t344 == a0_4 && (t345 == a0_5 && (t346 == a0_6 && (t347.toList == a0_7.toList)))))))) = false := by simpa using c19
                  (try (have c19b1 : decide (t340.toList = a0_0.toList && (t341 == a0_1 && (t342 == a0_2 && (t343 == a0_3 && (t344 == a0_4 && (t345 == a0_5 && (t346 == a0_6 && (t347.toList == a0_7.toList)))))))) = false := by simpa using c19))
                  (try (have c19b2 : (t340.toList == a0_0.toList && (t341 == a0_1 && (t342 == a0_2 && (t343 == a0_3 && (t344 == a0_4 && (t345 == a0_5 && (t346 == a0_6 && (t347.toList == a0_7.toList)))))))) = false := by simpa using c19))
                  (try (have c19b3 : ¬ (t340.toList = a0_0.toList && (t341 == a0_1 && (t342 == a0_2 && (t343 == a0_3 && (t344 == a0_4 && (t345 == a0_5 && (t346 == a0_6 && (t347.toList == a0_7.toList)))))))) := by simpa using c19))
                  clear c19
                  obtain rfl := Option.some.inj H
                  have hcz57_0 : wc.cell? ⟨gb336, 0, none⟩ = some (.string a0_0) := (blk_cell BK336.out 0).trans rfl
                  have hcz57_1 : wc.cell? ⟨gb336, 1, none⟩ = some (.int .i64 a0_1) := (blk_cell BK336.out 1).trans rfl
                  have hcz57_2 : wc.cell? ⟨gb336, 2, none⟩ = some (.int .i64 a0_2) := (blk_cell BK336.out 2).trans rfl
                  have hcz57_3 : wc.cell? ⟨gb336, 3, none⟩ = some (.int .i64 a0_3) := (blk_cell BK336.out 3).trans rfl
                  have hcz57_4 : wc.cell? ⟨gb336, 4, none⟩ = some (.int .i64 a0_4) := (blk_cell BK336.out 4).trans rfl
                  have hcz57_5 : wc.cell? ⟨gb336, 5, none⟩ = some (.int .i64 a0_5) := (blk_cell BK336.out 5).trans rfl
                  have hcz57_6 : wc.cell? ⟨gb336, 6, none⟩ = some (.int .i64 a0_6) := (blk_cell BK336.out 6).trans rfl
                  have hcz57_7 : wc.cell? ⟨gb336, 7, none⟩ = some (.string a0_7) := (blk_cell BK336.out 7).trans rfl
                  have hfz57_0 := blk_frozen BK336.out 0
                  have hfz57_1 := blk_frozen BK336.out 1
                  have hfz57_2 := blk_frozen BK336.out 2
                  have hfz57_3 := blk_frozen BK336.out 3
                  have hfz57_4 := blk_frozen BK336.out 4
                  have hfz57_5 := blk_frozen BK336.out 5
                  have hfz57_6 := blk_frozen BK336.out 6
                  have hfz57_7 := blk_frozen BK336.out 7
                  go_wp2_with (first | ((with_reducible refine gate_callee (f := 11) rfl ?_); refine goesL_ (some 29) rfl rfl Try.func11 (by kernel_rfl) rfl #[.agg #[.string a0_0, .int .i64 a0_1, .int .i64 a0_2, .int .i64 a0_3, .int .i64 a0_4, .int .i64 a0_5, .int .i64 a0_6, .string a0_7]] rfl (by (try simp only [List.map_toArray, List.map_cons, List.map_nil]); first | done | rfl | (simp only [List.length_drop, List.length_take]; rfl)) ?_; (with_reducible refine (dirrecord_Encode.calls kj4 a0_0 a0_1 a0_2 a0_3 a0_4 a0_5 a0_6 a0_7 t338 t339 _ A14.out).mono ?_); rintro e w58 ⟨rfl, hb⟩; refine ⟨_, rfl, ?_⟩; have n0_ := Aside0.mk (blk_below (g := gb336) (o := .cells #[.string a0_0, .int .i64 a0_1, .int .i64 a0_2, .int .i64 a0_3, .int .i64 a0_4, .int .i64 a0_5, .int .i64 a0_6, .string a0_7] 23 (0, 0)) (by (with_reducible repeat (first | refine blk_drewN ?_ _ | refine blk_drew ?_ | refine blk_alloc ?_ _)); exact BK336.out) hb); have n1_ := Aside0.mk (below_step (by repeat (first | (with_reducible first | exact HB.out | apply below_alloc | apply pw_below_drewN | apply below_drew1 | refine below_set ?_ GE336.out) | exact HB.out)) hb); clear BK336; clear HB; have BK336 := n0_; have HB := n1_; clear n0_ n1_; (try clear hb); (try clear hb2); (try clear hk); (try clear hi)) | ((with_reducible refine gate_callee (f := 15) rfl ?_); refine goesL_ (some 40) rfl rfl Try.func15 (by kernel_rfl) rfl #[.string (t338 ++ a1)] rfl (by (try simp only [List.map_toArray, List.map_cons, List.map_nil]); first | done | rfl | (simp only [List.length_drop, List.length_take]; rfl)) ?_; (with_reducible refine (dirrecord_Decode.calls kj4 (t338 ++ a1) t340 t341 t342 t343 t344 t345 t346 t347 t348 t349 _ A17.out).mono ?_); rintro e w59 ⟨rfl, hb⟩; refine ⟨_, rfl, ?_⟩; have n0_ := Aside0.mk (blk_below (g := gb336) (o := .cells #[.string a0_0, .int .i64 a0_1, .int .i64 a0_2, .int .i64 a0_3, .int .i64 a0_4, .int .i64 a0_5, .int .i64 a0_6, .string a0_7] 23 (0, 0)) (by (with_reducible repeat (first | refine blk_drewN ?_ _ | refine blk_drew ?_ | refine blk_alloc ?_ _)); exact BK336.out) hb); have n1_ := Aside0.mk (below_step (by repeat (first | (with_reducible first | exact HB.out | apply below_alloc | apply pw_below_drewN | apply below_drew1 | refine below_set ?_ GE336.out) | exact HB.out)) hb); clear BK336; clear HB; have BK336 := n0_; have HB := n1_; clear n0_ n1_; (try clear hb); (try clear hb2); (try clear hk); (try clear hi)) | ((with_reducible refine gate_dst (N := 7) rfl ?_); (try (refine gate_guard (by rfl) ?_; dsimp only)); refine box_event ?hg (N := 7) ?hd (cs := #[.string (⟨#[]⟩ : ByteArray), .int .i64 0, .int .i64 0, .int .i64 0, .int .i64 0, .int .i64 0, .int .i64 0, .string (⟨#[]⟩ : ByteArray)]) (t := 23) ?hr ?_; (case hd => rfl); (case hg => rfl); (case hr => first | (go_simp; done) | (go_simp; rfl)); intro gb350 hg w60 hbox hb; have n0_ := Aside0.mk (blk_below (g := gb336) (o := .cells #[.string a0_0, .int .i64 a0_1, .int .i64 a0_2, .int .i64 a0_3, .int .i64 a0_4, .int .i64 a0_5, .int .i64 a0_6, .string a0_7] 23 (0, 0)) (by (with_reducible repeat (first | refine blk_drewN ?_ _ | refine blk_drew ?_ | refine blk_alloc ?_ _)); exact BK336.out) hb); have n1_ := Aside0.mk (below_step (by repeat (first | (with_reducible first | exact HB.out | apply below_alloc | apply pw_below_drewN | apply below_drew1 | refine below_set ?_ GE336.out) | exact HB.out)) hb); have n2_ := Aside0.mk (hbox); have n3_ := Aside0.mk ((by rw [hg]; exact (below_size (by repeat (first | (with_reducible first | exact HB.out | apply below_alloc | apply pw_below_drewN | apply below_drew1 | refine below_set ?_ GE336.out) | exact HB.out))) : w.heap.size ≤ gb350)); have n4_ := Aside0.mk ((by rw [hg]; exact (below_size (by repeat (first | (with_reducible first | exact HB.out | apply below_alloc | apply pw_below_drewN | apply below_drew1 | refine below_set ?_ GE336.out) | exact HB.out))) : w.heap.size ≤ gb350)); have n5_ := Aside0.mk ((by rw [hg]; exact Nat.ne_of_lt (blk_lt (g := gb336) (o := .cells #[.string a0_0, .int .i64 a0_1, .int .i64 a0_2, .int .i64 a0_3, .int .i64 a0_4, .int .i64 a0_5, .int .i64 a0_6, .string a0_7] 23 (0, 0)) (by (with_reducible repeat (first | refine blk_drewN ?_ _ | refine blk_drew ?_ | refine blk_alloc ?_ _)); exact BK336.out)) : gb336 ≠ gb350)); have n6_ := Aside0.mk ((by rw [hg]; exact Nat.ne_of_gt (blk_lt (g := gb336) (o := .cells #[.string a0_0, .int .i64 a0_1, .int .i64 a0_2, .int .i64 a0_3, .int .i64 a0_4, .int .i64 a0_5, .int .i64 a0_6, .string a0_7] 23 (0, 0)) (by (with_reducible repeat (first | refine blk_drewN ?_ _ | refine blk_drew ?_ | refine blk_alloc ?_ _)); exact BK336.out)) : gb350 ≠ gb336)); clear BK336; clear HB; have BK336 := n0_; have HB := n1_; have BK350 := n2_; have GW350 := n3_; have GE350 := n4_; have NB336_350 := n5_; have NB350_336 := n6_; clear n0_ n1_ n2_ n3_ n4_ n5_ n6_; clear hb hbox hg; have hnb61 := NB350_336.out; have hnc61 := NB336_350.out; have hcz62_0 : w60.cell? ⟨gb350, 0, none⟩ = some (.string (⟨#[]⟩ : ByteArray)) := (blk_cell BK350.out 0).trans rfl; have hcz62_1 : w60.cell? ⟨gb350, 1, none⟩ = some (.int .i64 0) := (blk_cell BK350.out 1).trans rfl; have hcz62_2 : w60.cell? ⟨gb350, 2, none⟩ = some (.int .i64 0) := (blk_cell BK350.out 2).trans rfl; have hcz62_3 : w60.cell? ⟨gb350, 3, none⟩ = some (.int .i64 0) := (blk_cell BK350.out 3).trans rfl; have hcz62_4 : w60.cell? ⟨gb350, 4, none⟩ = some (.int .i64 0) := (blk_cell BK350.out 4).trans rfl; have hcz62_5 : w60.cell? ⟨gb350, 5, none⟩ = some (.int .i64 0) := (blk_cell BK350.out 5).trans rfl; have hcz62_6 : w60.cell? ⟨gb350, 6, none⟩ = some (.int .i64 0) := (blk_cell BK350.out 6).trans rfl; have hcz62_7 : w60.cell? ⟨gb350, 7, none⟩ = some (.string (⟨#[]⟩ : ByteArray)) := (blk_cell BK350.out 7).trans rfl; have hfz62_0 := blk_frozen BK350.out 0; have hfz62_1 := blk_frozen BK350.out 1; have hfz62_2 := blk_frozen BK350.out 2; have hfz62_3 := blk_frozen BK350.out 3; have hfz62_4 := blk_frozen BK350.out 4; have hfz62_5 := blk_frozen BK350.out 5; have hfz62_6 := blk_frozen BK350.out 6; have hfz62_7 := blk_frozen BK350.out 7; have hcz63_0 : w60.cell? ⟨gb336, 0, none⟩ = some (.string a0_0) := (blk_cell BK336.out 0).trans rfl; have hcz63_1 : w60.cell? ⟨gb336, 1, none⟩ = some (.int .i64 a0_1) := (blk_cell BK336.out 1).trans rfl; have hcz63_2 : w60.cell? ⟨gb336, 2, none⟩ = some (.int .i64 a0_2) := (blk_cell BK336.out 2).trans rfl; have hcz63_3 : w60.cell? ⟨gb336, 3, none⟩ = some (.int .i64 a0_3) := (blk_cell BK336.out 3).trans rfl; have hcz63_4 : w60.cell? ⟨gb336, 4, none⟩ = some (.int .i64 a0_4) := (blk_cell BK336.out 4).trans rfl; have hcz63_5 : w60.cell? ⟨gb336, 5, none⟩ = some (.int .i64 a0_5) := (blk_cell BK336.out 5).trans rfl; have hcz63_6 : w60.cell? ⟨gb336, 6, none⟩ = some (.int .i64 a0_6) := (blk_cell BK336.out 6).trans rfl; have hcz63_7 : w60.cell? ⟨gb336, 7, none⟩ = some (.string a0_7) := (blk_cell BK336.out 7).trans rfl; have hfz63_0 := blk_frozen BK336.out 0; have hfz63_1 := blk_frozen BK336.out 1; have hfz63_2 := blk_frozen BK336.out 2; have hfz63_3 := blk_frozen BK336.out 3; have hfz63_4 := blk_frozen BK336.out 4; have hfz63_5 := blk_frozen BK336.out 5; have hfz63_6 := blk_frozen BK336.out 6; have hfz63_7 := blk_frozen BK336.out 7))
                  go_ret
                  exact ⟨by first | rfl | (simp [errW_none, errW_some] <;> rfl) | (simp [*, errW_none, errW_some] <;> rfl), by repeat (first | (with_reducible first | exact HB.out | apply below_alloc | apply pw_below_drewN | apply below_drew1 | refine below_set ?_ GE336.out | refine below_set ?_ GE350.out) | exact HB.out)⟩
              · rw [if_neg c18] at H
                have c18b0 : (t349 == 0) = false := beq_eq_false_iff_ne.mpr c18
                have c18b1 : (t349 != 0) = true := bne_iff_ne.mpr c18
                obtain rfl := Option.some.inj H
                have hcz64_0 : wc.cell? ⟨gb336, 0, none⟩ = some (.string a0_0) := (blk_cell BK336.out 0).trans rfl
                have hcz64_1 : wc.cell? ⟨gb336, 1, none⟩ = some (.int .i64 a0_1) := (blk_cell BK336.out 1).trans rfl
                have hcz64_2 : wc.cell? ⟨gb336, 2, none⟩ = some (.int .i64 a0_2) := (blk_cell BK336.out 2).trans rfl
                have hcz64_3 : wc.cell? ⟨gb336, 3, none⟩ = some (.int .i64 a0_3) := (blk_cell BK336.out 3).trans rfl
                have hcz64_4 : wc.cell? ⟨gb336, 4, none⟩ = some (.int .i64 a0_4) := (blk_cell BK336.out 4).trans rfl
                have hcz64_5 : wc.cell? ⟨gb336, 5, none⟩ = some (.int .i64 a0_5) := (blk_cell BK336.out 5).trans rfl
                have hcz64_6 : wc.cell? ⟨gb336, 6, none⟩ = some (.int .i64 a0_6) := (blk_cell BK336.out 6).trans rfl
                have hcz64_7 : wc.cell? ⟨gb336, 7, none⟩ = some (.string a0_7) := (blk_cell BK336.out 7).trans rfl
                have hfz64_0 := blk_frozen BK336.out 0
                have hfz64_1 := blk_frozen BK336.out 1
                have hfz64_2 := blk_frozen BK336.out 2
                have hfz64_3 := blk_frozen BK336.out 3
                have hfz64_4 := blk_frozen BK336.out 4
                have hfz64_5 := blk_frozen BK336.out 5
                have hfz64_6 := blk_frozen BK336.out 6
                have hfz64_7 := blk_frozen BK336.out 7
                go_wp2_with (first | ((with_reducible refine gate_callee (f := 11) rfl ?_); refine goesL_ (some 29) rfl rfl Try.func11 (by kernel_rfl) rfl #[.agg #[.string a0_0, .int .i64 a0_1, .int .i64 a0_2, .int .i64 a0_3, .int .i64 a0_4, .int .i64 a0_5, .int .i64 a0_6, .string a0_7]] rfl (by (try simp only [List.map_toArray, List.map_cons, List.map_nil]); first | done | rfl | (simp only [List.length_drop, List.length_take]; rfl)) ?_; (with_reducible refine (dirrecord_Encode.calls kj4 a0_0 a0_1 a0_2 a0_3 a0_4 a0_5 a0_6 a0_7 t338 t339 _ A14.out).mono ?_); rintro e w65 ⟨rfl, hb⟩; refine ⟨_, rfl, ?_⟩; have n0_ := Aside0.mk (blk_below (g := gb336) (o := .cells #[.string a0_0, .int .i64 a0_1, .int .i64 a0_2, .int .i64 a0_3, .int .i64 a0_4, .int .i64 a0_5, .int .i64 a0_6, .string a0_7] 23 (0, 0)) (by (with_reducible repeat (first | refine blk_drewN ?_ _ | refine blk_drew ?_ | refine blk_alloc ?_ _)); exact BK336.out) hb); have n1_ := Aside0.mk (below_step (by repeat (first | (with_reducible first | exact HB.out | apply below_alloc | apply pw_below_drewN | apply below_drew1 | refine below_set ?_ GE336.out) | exact HB.out)) hb); clear BK336; clear HB; have BK336 := n0_; have HB := n1_; clear n0_ n1_; (try clear hb); (try clear hb2); (try clear hk); (try clear hi)) | ((with_reducible refine gate_callee (f := 15) rfl ?_); refine goesL_ (some 40) rfl rfl Try.func15 (by kernel_rfl) rfl #[.string (t338 ++ a1)] rfl (by (try simp only [List.map_toArray, List.map_cons, List.map_nil]); first | done | rfl | (simp only [List.length_drop, List.length_take]; rfl)) ?_; (with_reducible refine (dirrecord_Decode.calls kj4 (t338 ++ a1) t340 t341 t342 t343 t344 t345 t346 t347 t348 t349 _ A17.out).mono ?_); rintro e w66 ⟨rfl, hb⟩; refine ⟨_, rfl, ?_⟩; have n0_ := Aside0.mk (blk_below (g := gb336) (o := .cells #[.string a0_0, .int .i64 a0_1, .int .i64 a0_2, .int .i64 a0_3, .int .i64 a0_4, .int .i64 a0_5, .int .i64 a0_6, .string a0_7] 23 (0, 0)) (by (with_reducible repeat (first | refine blk_drewN ?_ _ | refine blk_drew ?_ | refine blk_alloc ?_ _)); exact BK336.out) hb); have n1_ := Aside0.mk (below_step (by repeat (first | (with_reducible first | exact HB.out | apply below_alloc | apply pw_below_drewN | apply below_drew1 | refine below_set ?_ GE336.out) | exact HB.out)) hb); clear BK336; clear HB; have BK336 := n0_; have HB := n1_; clear n0_ n1_; (try clear hb); (try clear hb2); (try clear hk); (try clear hi)) | ((with_reducible refine gate_dst (N := 7) rfl ?_); (try (refine gate_guard (by rfl) ?_; dsimp only)); refine box_event ?hg (N := 7) ?hd (cs := #[.string (⟨#[]⟩ : ByteArray), .int .i64 0, .int .i64 0, .int .i64 0, .int .i64 0, .int .i64 0, .int .i64 0, .string (⟨#[]⟩ : ByteArray)]) (t := 23) ?hr ?_; (case hd => rfl); (case hg => rfl); (case hr => first | (go_simp; done) | (go_simp; rfl)); intro gb350 hg w67 hbox hb; have n0_ := Aside0.mk (blk_below (g := gb336) (o := .cells #[.string a0_0, .int .i64 a0_1, .int .i64 a0_2, .int .i64 a0_3, .int .i64 a0_4, .int .i64 a0_5, .int .i64 a0_6, .string a0_7] 23 (0, 0)) (by (with_reducible repeat (first | refine blk_drewN ?_ _ | refine blk_drew ?_ | refine blk_alloc ?_ _)); exact BK336.out) hb); have n1_ := Aside0.mk (below_step (by repeat (first | (with_reducible first | exact HB.out | apply below_alloc | apply pw_below_drewN | apply below_drew1 | refine below_set ?_ GE336.out) | exact HB.out)) hb); have n2_ := Aside0.mk (hbox); have n3_ := Aside0.mk ((by rw [hg]; exact (below_size (by repeat (first | (with_reducible first | exact HB.out | apply below_alloc | apply pw_below_drewN | apply below_drew1 | refine below_set ?_ GE336.out) | exact HB.out))) : w.heap.size ≤ gb350)); have n4_ := Aside0.mk ((by rw [hg]; exact (below_size (by repeat (first | (with_reducible first | exact HB.out | apply below_alloc | apply pw_below_drewN | apply below_drew1 | refine below_set ?_ GE336.out) | exact HB.out))) : w.heap.size ≤ gb350)); have n5_ := Aside0.mk ((by rw [hg]; exact Nat.ne_of_lt (blk_lt (g := gb336) (o := .cells #[.string a0_0, .int .i64 a0_1, .int .i64 a0_2, .int .i64 a0_3, .int .i64 a0_4, .int .i64 a0_5, .int .i64 a0_6, .string a0_7] 23 (0, 0)) (by (with_reducible repeat (first | refine blk_drewN ?_ _ | refine blk_drew ?_ | refine blk_alloc ?_ _)); exact BK336.out)) : gb336 ≠ gb350)); have n6_ := Aside0.mk ((by rw [hg]; exact Nat.ne_of_gt (blk_lt (g := gb336) (o := .cells #[.string a0_0, .int .i64 a0_1, .int .i64 a0_2, .int .i64 a0_3, .int .i64 a0_4, .int .i64 a0_5, .int .i64 a0_6, .string a0_7] 23 (0, 0)) (by (with_reducible repeat (first | refine blk_drewN ?_ _ | refine blk_drew ?_ | refine blk_alloc ?_ _)); exact BK336.out)) : gb350 ≠ gb336)); clear BK336; clear HB; have BK336 := n0_; have HB := n1_; have BK350 := n2_; have GW350 := n3_; have GE350 := n4_; have NB336_350 := n5_; have NB350_336 := n6_; clear n0_ n1_ n2_ n3_ n4_ n5_ n6_; clear hb hbox hg; have hnb68 := NB350_336.out; have hnc68 := NB336_350.out; have hcz69_0 : w67.cell? ⟨gb350, 0, none⟩ = some (.string (⟨#[]⟩ : ByteArray)) := (blk_cell BK350.out 0).trans rfl; have hcz69_1 : w67.cell? ⟨gb350, 1, none⟩ = some (.int .i64 0) := (blk_cell BK350.out 1).trans rfl; have hcz69_2 : w67.cell? ⟨gb350, 2, none⟩ = some (.int .i64 0) := (blk_cell BK350.out 2).trans rfl; have hcz69_3 : w67.cell? ⟨gb350, 3, none⟩ = some (.int .i64 0) := (blk_cell BK350.out 3).trans rfl; have hcz69_4 : w67.cell? ⟨gb350, 4, none⟩ = some (.int .i64 0) := (blk_cell BK350.out 4).trans rfl; have hcz69_5 : w67.cell? ⟨gb350, 5, none⟩ = some (.int .i64 0) := (blk_cell BK350.out 5).trans rfl; have hcz69_6 : w67.cell? ⟨gb350, 6, none⟩ = some (.int .i64 0) := (blk_cell BK350.out 6).trans rfl; have hcz69_7 : w67.cell? ⟨gb350, 7, none⟩ = some (.string (⟨#[]⟩ : ByteArray)) := (blk_cell BK350.out 7).trans rfl; have hfz69_0 := blk_frozen BK350.out 0; have hfz69_1 := blk_frozen BK350.out 1; have hfz69_2 := blk_frozen BK350.out 2; have hfz69_3 := blk_frozen BK350.out 3; have hfz69_4 := blk_frozen BK350.out 4; have hfz69_5 := blk_frozen BK350.out 5; have hfz69_6 := blk_frozen BK350.out 6; have hfz69_7 := blk_frozen BK350.out 7))
                go_ret
                exact ⟨by first | rfl | (simp [errW_none, errW_some] <;> rfl) | (simp [*, errW_none, errW_some] <;> rfl), by repeat (first | (with_reducible first | exact HB.out | apply below_alloc | apply pw_below_drewN | apply below_drew1 | refine below_set ?_ GE336.out | refine below_set ?_ GE350.out) | exact HB.out)⟩
            · rw [if_neg c16] at H
              exact absurd H (by simp)
          · rw [if_neg c15] at H
            have c15b0 : (t339 == 0) = false := beq_eq_false_iff_ne.mpr c15
            have c15b1 : (t339 != 0) = true := bne_iff_ne.mpr c15
            obtain rfl := Option.some.inj H
            have hcz70_0 : wc.cell? ⟨gb336, 0, none⟩ = some (.string a0_0) := (blk_cell BK336.out 0).trans rfl
            have hcz70_1 : wc.cell? ⟨gb336, 1, none⟩ = some (.int .i64 a0_1) := (blk_cell BK336.out 1).trans rfl
            have hcz70_2 : wc.cell? ⟨gb336, 2, none⟩ = some (.int .i64 a0_2) := (blk_cell BK336.out 2).trans rfl
            have hcz70_3 : wc.cell? ⟨gb336, 3, none⟩ = some (.int .i64 a0_3) := (blk_cell BK336.out 3).trans rfl
            have hcz70_4 : wc.cell? ⟨gb336, 4, none⟩ = some (.int .i64 a0_4) := (blk_cell BK336.out 4).trans rfl
            have hcz70_5 : wc.cell? ⟨gb336, 5, none⟩ = some (.int .i64 a0_5) := (blk_cell BK336.out 5).trans rfl
            have hcz70_6 : wc.cell? ⟨gb336, 6, none⟩ = some (.int .i64 a0_6) := (blk_cell BK336.out 6).trans rfl
            have hcz70_7 : wc.cell? ⟨gb336, 7, none⟩ = some (.string a0_7) := (blk_cell BK336.out 7).trans rfl
            have hfz70_0 := blk_frozen BK336.out 0
            have hfz70_1 := blk_frozen BK336.out 1
            have hfz70_2 := blk_frozen BK336.out 2
            have hfz70_3 := blk_frozen BK336.out 3
            have hfz70_4 := blk_frozen BK336.out 4
            have hfz70_5 := blk_frozen BK336.out 5
            have hfz70_6 := blk_frozen BK336.out 6
            have hfz70_7 := blk_frozen BK336.out 7
            go_wp2_with (first | ((with_reducible refine gate_callee (f := 11) rfl ?_); refine goesL_ (some 29) rfl rfl Try.func11 (by kernel_rfl) rfl #[.agg #[.string a0_0, .int .i64 a0_1, .int .i64 a0_2, .int .i64 a0_3, .int .i64 a0_4, .int .i64 a0_5, .int .i64 a0_6, .string a0_7]] rfl (by (try simp only [List.map_toArray, List.map_cons, List.map_nil]); first | done | rfl | (simp only [List.length_drop, List.length_take]; rfl)) ?_; (with_reducible refine (dirrecord_Encode.calls kj4 a0_0 a0_1 a0_2 a0_3 a0_4 a0_5 a0_6 a0_7 t338 t339 _ A14.out).mono ?_); rintro e w71 ⟨rfl, hb⟩; refine ⟨_, rfl, ?_⟩; have n0_ := Aside0.mk (blk_below (g := gb336) (o := .cells #[.string a0_0, .int .i64 a0_1, .int .i64 a0_2, .int .i64 a0_3, .int .i64 a0_4, .int .i64 a0_5, .int .i64 a0_6, .string a0_7] 23 (0, 0)) (by (with_reducible repeat (first | refine blk_drewN ?_ _ | refine blk_drew ?_ | refine blk_alloc ?_ _)); exact BK336.out) hb); have n1_ := Aside0.mk (below_step (by repeat (first | (with_reducible first | exact HB.out | apply below_alloc | apply pw_below_drewN | apply below_drew1 | refine below_set ?_ GE336.out) | exact HB.out)) hb); clear BK336; clear HB; have BK336 := n0_; have HB := n1_; clear n0_ n1_; (try clear hb); (try clear hb2); (try clear hk); (try clear hi)))
            go_ret
            exact ⟨by first | rfl | (simp [errW_none, errW_some] <;> rfl) | (simp [*, errW_none, errW_some] <;> rfl), by repeat (first | (with_reducible first | exact HB.out | apply below_alloc | apply pw_below_drewN | apply below_drew1 | refine below_set ?_ GE336.out) | exact HB.out)⟩
  · replace c4 := Bool.eq_false_iff.mpr c4
    subst c4
    have H1 : (some false) = some r := by rw [if_neg (show ¬ (false = true) by decide)] at H; exact H
    clear H
    have H := H1
    clear H1
    obtain rfl := Option.some.inj H
    go_enter Try.func5, Try.ntmps5
    go_wp2_with (first | ((with_reducible refine gate_dst (N := 2) rfl ?_); (try (refine gate_guard (by rfl) ?_; dsimp only)); refine box_event ?hg (N := 2) ?hd (cs := #[.string a0_0, .int .i64 a0_1, .int .i64 a0_2, .int .i64 a0_3, .int .i64 a0_4, .int .i64 a0_5, .int .i64 a0_6, .string a0_7]) (t := 23) ?hr ?_; (case hd => rfl); (case hg => rfl); (case hr => first | (go_simp; done) | (go_simp; rfl)); intro gb336 hg w72 hbox hb; have n0_ := Aside0.mk (below_step (by repeat (first | (with_reducible first | exact HB.out | apply below_alloc | apply pw_below_drewN | apply below_drew1) | exact HB.out)) hb); have n1_ := Aside0.mk (hbox); have n2_ := Aside0.mk ((by rw [hg]; exact (below_size (by repeat (first | (with_reducible first | exact HB.out | apply below_alloc | apply pw_below_drewN | apply below_drew1) | exact HB.out))) : w.heap.size ≤ gb336)); have n3_ := Aside0.mk ((by rw [hg]; exact (below_size (by repeat (first | (with_reducible first | exact HB.out | apply below_alloc | apply pw_below_drewN | apply below_drew1) | exact HB.out))) : w.heap.size ≤ gb336)); clear HB; have HB := n0_; have BK336 := n1_; have GW336 := n2_; have GE336 := n3_; clear n0_ n1_ n2_ n3_; clear hb hbox hg) | ((with_reducible refine gate_callee (f := 10) rfl ?_); refine goesL_ (some 10) rfl rfl Try.func10 (by kernel_rfl) rfl #[] rfl (by (try simp only [List.map_toArray, List.map_cons, List.map_nil]); first | done | rfl | (simp only [List.length_drop, List.length_take]; rfl)) ?_; (with_reducible refine (masterdisclaw20_awake.calls  false _ A3.out).mono ?_); rintro e w73 ⟨rfl, hb⟩; refine ⟨_, rfl, ?_⟩; have n0_ := Aside0.mk (blk_below (g := gb336) (o := .cells #[.string a0_0, .int .i64 a0_1, .int .i64 a0_2, .int .i64 a0_3, .int .i64 a0_4, .int .i64 a0_5, .int .i64 a0_6, .string a0_7] 23 (0, 0)) (by (with_reducible repeat (first | refine blk_drewN ?_ _ | refine blk_drew ?_ | refine blk_alloc ?_ _)); exact BK336.out) hb); have n1_ := Aside0.mk (below_step (by repeat (first | (with_reducible first | exact HB.out | apply below_alloc | apply pw_below_drewN | apply below_drew1 | refine below_set ?_ GE336.out) | exact HB.out)) hb); clear BK336; clear HB; have BK336 := n0_; have HB := n1_; clear n0_ n1_; (try clear hb); (try clear hb2); (try clear hk); (try clear hi)))
    go_ret
    exact ⟨by first | rfl | (simp [errW_none, errW_some] <;> rfl) | (simp [*, errW_none, errW_some] <;> rfl), by repeat (first | (with_reducible first | exact HB.out | apply below_alloc | apply pw_below_drewN | apply below_drew1 | refine below_set ?_ GE336.out) | exact HB.out)⟩

end Go.Proofs.Ytagnefbgclpccaa.A
