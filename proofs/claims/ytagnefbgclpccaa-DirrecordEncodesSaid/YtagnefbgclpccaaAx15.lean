-- Written by a program of this session's, hprint.py, out of the translation. Not trusted: Lean checks it.
import Derived.Test.YtagnefbgclpccaaAx0
import Derived.Test.YtagnefbgclpccaaAx2
import Derived.Test.YtagnefbgclpccaaAx11
import Derived.Test.YtagnefbgclpccaaAx14
import Derived.Test.YtagnefbgclpccaaH2d
import Derived.Test.YtagnefbgclpccaaH3
namespace Go.Proofs.Ytagnefbgclpccaa.A
open Go.RowKit Go.Proofs.Ytagnefbgclpccaa.H Go.Proofs.YtagnefbgclpccaaW.PrintWords Go.Proofs.YtagnefbgclpccaaW.PrintLast Go.Proofs.YtagnefbgclpccaaW.PrintMore
attribute [local go_sem] max2_int min2_int max_two min_two max_three min_three max_four min_four   -- for this text's walks alone
set_option linter.unusedVariables false
set_option linter.unusedSimpArgs false

/-! ### masterdisclaw20_DirrecordEncodes: function 3 -/
def masterdisclaw20_DirrecordEncodes.j0 : Nat → Int → Int → Bool → ByteArray → Int → Int → Int → Int → Int → Int → ByteArray → Option (Bool)
  | 0, _, _, _, _, _, _, _, _, _, _, _ => none
  | k + 1, x1, x2, x22, x242000, x242001, x242002, x242003, x242004, x242005, x242006, x242007 => if x22 = true then (some true) else ((dirrecord_Encode.f k x242000 x242001 x242002 x242003 x242004 x242005 x242006 x242007).bind fun bt243 => ((masterdiscref20_Encode.f k x242000 x242001 x242002 x242003 x242004 x242005 x242006 x242007).bind fun bt245 => (if bt243.1.toList = bt245.1.toList then (if bt243.2 = bt245.2 then ((dirrecord_Size.f k x1 x2).bind fun t247 => ((masterdiscref20_Size.f k x1 x2).bind fun t248 => (some (t247 == t248)))) else (some false)) else (some false))))
def masterdisclaw20_DirrecordEncodes.f (k : Nat) (a0_0 : ByteArray) (a0_1 : Int) (a0_2 : Int) (a0_3 : Int) (a0_4 : Int) (a0_5 : Int) (a0_6 : Int) (a0_7 : ByteArray) (a1 : Int) (a2 : Int) : Option (Bool) := (masterdisclaw20_awake.f).bind fun t242 => (if t242 = true then (if (a0_0.size : Int) > 300 then (masterdisclaw20_DirrecordEncodes.j0 k a1 a2 true a0_0 a0_1 a0_2 a0_3 a0_4 a0_5 a0_6 a0_7) else (masterdisclaw20_DirrecordEncodes.j0 k a1 a2 (decide ((a0_7.size : Int) > 300)) a0_0 a0_1 a0_2 a0_3 a0_4 a0_5 a0_6 a0_7)) else (some false))
set_option maxHeartbeats 8000000 in
set_option maxRecDepth 100000 in
theorem masterdisclaw20_DirrecordEncodes.calls (k : Nat) (a0_0 : ByteArray) (a0_1 : Int) (a0_2 : Int) (a0_3 : Int) (a0_4 : Int) (a0_5 : Int) (a0_6 : Int) (a0_7 : ByteArray) (a1 : Int) (a2 : Int) (r : Bool) (w : World) (h : masterdisclaw20_DirrecordEncodes.f k a0_0 a0_1 a0_2 a0_3 a0_4 a0_5 a0_6 a0_7 a1 a2 = some r) :
    Calls Try.prog 3 #[.agg #[.string a0_0, .int .i64 a0_1, .int .i64 a0_2, .int .i64 a0_3, .int .i64 a0_4, .int .i64 a0_5, .int .i64 a0_6, .string a0_7], .int .i64 a1, .int .i64 a2] w fun e w' => e = .returned (.bool r) ∧ Below w.heap.size w w' := by
  have hu23 := Try.underlying23
  have HB := Aside0.mk (Below.refl w.heap.size w)
  have H : ((masterdisclaw20_awake.f).bind fun t242 => (if t242 = true then (if (a0_0.size : Int) > 300 then (masterdisclaw20_DirrecordEncodes.j0 k a1 a2 true a0_0 a0_1 a0_2 a0_3 a0_4 a0_5 a0_6 a0_7) else (masterdisclaw20_DirrecordEncodes.j0 k a1 a2 (decide ((a0_7.size : Int) > 300)) a0_0 a0_1 a0_2 a0_3 a0_4 a0_5 a0_6 a0_7)) else (some false))) = some r := h
  clear h
  replace H := Option.bind_eq_some_iff.mp H
  obtain ⟨t242, A40, H⟩ := H
  replace H : (if t242 = true then (if (a0_0.size : Int) > 300 then (masterdisclaw20_DirrecordEncodes.j0 k a1 a2 true a0_0 a0_1 a0_2 a0_3 a0_4 a0_5 a0_6 a0_7) else (masterdisclaw20_DirrecordEncodes.j0 k a1 a2 (decide ((a0_7.size : Int) > 300)) a0_0 a0_1 a0_2 a0_3 a0_4 a0_5 a0_6 a0_7)) else (some false)) = some r := H
  have A4 := Aside0.mk A40
  clear A40
  by_cases c5 : t242 = true
  · subst c5
    have H1 : (if (a0_0.size : Int) > 300 then (masterdisclaw20_DirrecordEncodes.j0 k a1 a2 true a0_0 a0_1 a0_2 a0_3 a0_4 a0_5 a0_6 a0_7) else (masterdisclaw20_DirrecordEncodes.j0 k a1 a2 (decide ((a0_7.size : Int) > 300)) a0_0 a0_1 a0_2 a0_3 a0_4 a0_5 a0_6 a0_7)) = some r := by rw [if_pos rfl] at H; exact H
    clear H
    have H := H1
    clear H1
    have HC6 := Aside0.mk H
    clear H
    go_enter Try.func3, Try.ntmps3
    go_upto_region 3 with (first | ((with_reducible refine gate_dst (N := 3) rfl ?_); (try (refine gate_guard (by rfl) ?_; dsimp only)); refine box_event ?hg (N := 3) ?hd (cs := #[.string a0_0, .int .i64 a0_1, .int .i64 a0_2, .int .i64 a0_3, .int .i64 a0_4, .int .i64 a0_5, .int .i64 a0_6, .string a0_7]) (t := 23) ?hr ?_; (case hd => rfl); (case hg => rfl); (case hr => first | (go_simp; done) | (go_simp; rfl)); intro gb241 hg w7 hbox hb; have n0_ := Aside0.mk (below_step (by repeat (first | (with_reducible first | exact HB.out | apply below_alloc | apply pw_below_drewN | apply below_drew1) | exact HB.out)) hb); have n1_ := Aside0.mk (hbox); have n2_ := Aside0.mk ((by rw [hg]; exact (below_size (by repeat (first | (with_reducible first | exact HB.out | apply below_alloc | apply pw_below_drewN | apply below_drew1) | exact HB.out))) : w.heap.size ≤ gb241)); have n3_ := Aside0.mk ((by rw [hg]; exact (below_size (by repeat (first | (with_reducible first | exact HB.out | apply below_alloc | apply pw_below_drewN | apply below_drew1) | exact HB.out))) : w.heap.size ≤ gb241)); clear HB; have HB := n0_; have BK241 := n1_; have GW241 := n2_; have GE241 := n3_; clear n0_ n1_ n2_ n3_; clear hb hbox hg) | ((with_reducible refine gate_callee (f := 10) rfl ?_); refine goesL_ (some 11) rfl rfl Try.func10 (by kernel_rfl) rfl #[] rfl (by (try simp only [List.map_toArray, List.map_cons, List.map_nil]); first | done | rfl | (simp only [List.length_drop, List.length_take]; rfl)) ?_; (with_reducible refine (masterdisclaw20_awake.calls  true _ A4.out).mono ?_); rintro e w8 ⟨rfl, hb⟩; refine ⟨_, rfl, ?_⟩; have n0_ := Aside0.mk (blk_below (g := gb241) (o := .cells #[.string a0_0, .int .i64 a0_1, .int .i64 a0_2, .int .i64 a0_3, .int .i64 a0_4, .int .i64 a0_5, .int .i64 a0_6, .string a0_7] 23 (0, 0)) (by (with_reducible repeat (first | refine blk_drewN ?_ _ | refine blk_drew ?_ | refine blk_alloc ?_ _)); exact BK241.out) hb); have n1_ := Aside0.mk (below_step (by repeat (first | (with_reducible first | exact HB.out | apply below_alloc | apply pw_below_drewN | apply below_drew1 | refine below_set ?_ GE241.out) | exact HB.out)) hb); clear BK241; clear HB; have BK241 := n0_; have HB := n1_; clear n0_ n1_; (try clear hb); (try clear hb2); (try clear hk); (try clear hi)))
    (try simp only [Act.put, List.setIfInBounds_toArray, List.set_cons_zero, List.set_cons_succ])
    go_cut [22] (fun v22 wc => ∃ (kq : Nat) (x22_5 : Bool), v22 = .bool x22_5 ∧ Aside0 (masterdisclaw20_DirrecordEncodes.j0 kq a1 a2 x22_5 a0_0 a0_1 a0_2 a0_3 a0_4 a0_5 a0_6 a0_7 = some r) ∧ Aside0 (kq ≤ k) ∧ Aside0 (wc.heap[gb241]? = some (.cells #[.string a0_0, .int .i64 a0_1, .int .i64 a0_2, .int .i64 a0_3, .int .i64 a0_4, .int .i64 a0_5, .int .i64 a0_6, .string a0_7] 23 (0, 0))) ∧ Aside0 (Below w.heap.size w wc))
    case first =>
      have H := HC6.out
      clear HC6
      by_cases c9 : (a0_0.size : Int) > 300
      · rw [if_pos c9] at H
        have c9b0 : decide (300 < (a0_0.size : Int)) = true := decide_eq_true c9
        have c9b1 : decide (300 < a0_0.size) = true := decide_eq_true (by omega)
        clear c9
        (first | rw [c9b0] | (simp only [i64_w, i32_w]; rw [c9b0]) | skip)
        have H' := Aside0.mk H
        clear H
        have hcz10_0 : w8.cell? ⟨gb241, 0, none⟩ = some (.string a0_0) := (blk_cell BK241.out 0).trans rfl
        have hcz10_1 : w8.cell? ⟨gb241, 1, none⟩ = some (.int .i64 a0_1) := (blk_cell BK241.out 1).trans rfl
        have hcz10_2 : w8.cell? ⟨gb241, 2, none⟩ = some (.int .i64 a0_2) := (blk_cell BK241.out 2).trans rfl
        have hcz10_3 : w8.cell? ⟨gb241, 3, none⟩ = some (.int .i64 a0_3) := (blk_cell BK241.out 3).trans rfl
        have hcz10_4 : w8.cell? ⟨gb241, 4, none⟩ = some (.int .i64 a0_4) := (blk_cell BK241.out 4).trans rfl
        have hcz10_5 : w8.cell? ⟨gb241, 5, none⟩ = some (.int .i64 a0_5) := (blk_cell BK241.out 5).trans rfl
        have hcz10_6 : w8.cell? ⟨gb241, 6, none⟩ = some (.int .i64 a0_6) := (blk_cell BK241.out 6).trans rfl
        have hcz10_7 : w8.cell? ⟨gb241, 7, none⟩ = some (.string a0_7) := (blk_cell BK241.out 7).trans rfl
        have hfz10_0 := blk_frozen BK241.out 0
        have hfz10_1 := blk_frozen BK241.out 1
        have hfz10_2 := blk_frozen BK241.out 2
        have hfz10_3 := blk_frozen BK241.out 3
        have hfz10_4 := blk_frozen BK241.out 4
        have hfz10_5 := blk_frozen BK241.out 5
        have hfz10_6 := blk_frozen BK241.out 6
        have hfz10_7 := blk_frozen BK241.out 7
        go_wp2
        go_meet
        case rel => exact ⟨_, (true), (by first | rfl | (simp; done) | (simp [*]; done)), H', ⟨by first | omega | exact Nat.le_refl _⟩, ⟨by (with_reducible repeat (first | refine blk_drewN ?_ _ | refine blk_drew ?_ | refine blk_alloc ?_ _)); exact BK241.out⟩, ⟨by repeat (first | (with_reducible first | exact HB.out | apply below_alloc | apply pw_below_drewN | apply below_drew1 | refine below_set ?_ GE241.out) | exact HB.out)⟩⟩
      · rw [if_neg c9] at H
        have c9b0 : decide (300 < (a0_0.size : Int)) = false := decide_eq_false c9
        have c9b1 : decide (300 < a0_0.size) = false := decide_eq_false (by omega)
        clear c9
        (first | rw [c9b0] | (simp only [i64_w, i32_w]; rw [c9b0]) | skip)
        have H' := Aside0.mk H
        clear H
        have hcz11_0 : w8.cell? ⟨gb241, 0, none⟩ = some (.string a0_0) := (blk_cell BK241.out 0).trans rfl
        have hcz11_1 : w8.cell? ⟨gb241, 1, none⟩ = some (.int .i64 a0_1) := (blk_cell BK241.out 1).trans rfl
        have hcz11_2 : w8.cell? ⟨gb241, 2, none⟩ = some (.int .i64 a0_2) := (blk_cell BK241.out 2).trans rfl
        have hcz11_3 : w8.cell? ⟨gb241, 3, none⟩ = some (.int .i64 a0_3) := (blk_cell BK241.out 3).trans rfl
        have hcz11_4 : w8.cell? ⟨gb241, 4, none⟩ = some (.int .i64 a0_4) := (blk_cell BK241.out 4).trans rfl
        have hcz11_5 : w8.cell? ⟨gb241, 5, none⟩ = some (.int .i64 a0_5) := (blk_cell BK241.out 5).trans rfl
        have hcz11_6 : w8.cell? ⟨gb241, 6, none⟩ = some (.int .i64 a0_6) := (blk_cell BK241.out 6).trans rfl
        have hcz11_7 : w8.cell? ⟨gb241, 7, none⟩ = some (.string a0_7) := (blk_cell BK241.out 7).trans rfl
        have hfz11_0 := blk_frozen BK241.out 0
        have hfz11_1 := blk_frozen BK241.out 1
        have hfz11_2 := blk_frozen BK241.out 2
        have hfz11_3 := blk_frozen BK241.out 3
        have hfz11_4 := blk_frozen BK241.out 4
        have hfz11_5 := blk_frozen BK241.out 5
        have hfz11_6 := blk_frozen BK241.out 6
        have hfz11_7 := blk_frozen BK241.out 7
        go_wp2
        go_meet
        case rel => exact ⟨_, (decide ((a0_7.size : Int) > 300)), (by first | rfl | (simp; done) | (simp [*]; done)), H', ⟨by first | omega | exact Nat.le_refl _⟩, ⟨by (with_reducible repeat (first | refine blk_drewN ?_ _ | refine blk_drew ?_ | refine blk_alloc ?_ _)); exact BK241.out⟩, ⟨by repeat (first | (with_reducible first | exact HB.out | apply below_alloc | apply pw_below_drewN | apply below_drew1 | refine below_set ?_ GE241.out) | exact HB.out)⟩⟩
    case rest =>
      clear HC6
      try clear c1
      try clear p2
      try clear c3
      try clear c5
      try clear c9
      try clear c9b0
      try clear c9b1
      try clear c10
      try clear hcz10_0
      try clear hcz10_1
      try clear hcz10_2
      try clear hcz10_3
      try clear hcz10_4
      try clear hcz10_5
      try clear hcz10_6
      try clear hcz10_7
      try clear hcz11_0
      try clear hcz11_1
      try clear hcz11_2
      try clear hcz11_3
      try clear hcz11_4
      try clear hcz11_5
      try clear hcz11_6
      try clear hcz11_7
      try clear hfz10_0
      try clear hfz10_1
      try clear hfz10_2
      try clear hfz10_3
      try clear hfz10_4
      try clear hfz10_5
      try clear hfz10_6
      try clear hfz10_7
      try clear hfz11_0
      try clear hfz11_1
      try clear hfz11_2
      try clear hfz11_3
      try clear hfz11_4
      try clear hfz11_5
      try clear hfz11_6
      try clear hfz11_7
      obtain ⟨kq, x22_5, rfl, HA, HJ5, BK241, HB⟩ := hcut
      cases kq with
      | zero => exact absurd HA.out (by simp [masterdisclaw20_DirrecordEncodes.j0])
      | succ kj5 =>
        have H := HA.out
        clear HA
        simp only [masterdisclaw20_DirrecordEncodes.j0] at H
        by_cases c12 : x22_5 = true
        · subst c12
          have H1 : (some true) = some r := by rw [if_pos rfl] at H; exact H
          clear H
          have H := H1
          clear H1
          obtain rfl := Option.some.inj H
          go_wp2
          go_ret
          exact ⟨by first | rfl | (simp [errW_none, errW_some] <;> rfl) | (simp [*, errW_none, errW_some] <;> rfl), by repeat (first | (with_reducible first | exact HB.out | apply below_alloc | apply pw_below_drewN | apply below_drew1 | refine below_set ?_ GE241.out) | exact HB.out)⟩
        · replace c12 := Bool.eq_false_iff.mpr c12
          subst c12
          have H1 : ((dirrecord_Encode.f kj5 a0_0 a0_1 a0_2 a0_3 a0_4 a0_5 a0_6 a0_7).bind fun bt243 => ((masterdiscref20_Encode.f kj5 a0_0 a0_1 a0_2 a0_3 a0_4 a0_5 a0_6 a0_7).bind fun bt245 => (if bt243.1.toList = bt245.1.toList then (if bt243.2 = bt245.2 then ((dirrecord_Size.f kj5 a1 a2).bind fun t247 => ((masterdiscref20_Size.f kj5 a1 a2).bind fun t248 => (some (t247 == t248)))) else (some false)) else (some false)))) = some r := by rw [if_neg (show ¬ (false = true) by decide)] at H; exact H
          clear H
          have H := H1
          clear H1
          replace H := Option.bind_eq_some_iff.mp H
          obtain ⟨⟨t243, t244⟩, A130, H⟩ := H
          replace H : ((masterdiscref20_Encode.f kj5 a0_0 a0_1 a0_2 a0_3 a0_4 a0_5 a0_6 a0_7).bind fun bt245 => (if t243.toList = bt245.1.toList then (if t244 = bt245.2 then ((dirrecord_Size.f kj5 a1 a2).bind fun t247 => ((masterdiscref20_Size.f kj5 a1 a2).bind fun t248 => (some (t247 == t248)))) else (some false)) else (some false))) = some r := H
          have A13 := Aside0.mk A130
          clear A130
          replace H := Option.bind_eq_some_iff.mp H
          obtain ⟨⟨t245, t246⟩, A140, H⟩ := H
          replace H : (if t243.toList = t245.toList then (if t244 = t246 then ((dirrecord_Size.f kj5 a1 a2).bind fun t247 => ((masterdiscref20_Size.f kj5 a1 a2).bind fun t248 => (some (t247 == t248)))) else (some false)) else (some false)) = some r := H
          have A14 := Aside0.mk A140
          clear A140
          by_cases c15 : t243.toList = t245.toList
          · rw [if_pos c15] at H
            have c15b0 : (t243.toList == t245.toList) = true := beq_iff_eq.mpr c15
            have c15b1 : (t243.toList != t245.toList) = false := bne_eq_false_iff_eq.mpr c15
            clear c15
            by_cases c16 : t244 = t246
            · rw [if_pos c16] at H
              have c16b0 : (t244 == t246) = true := beq_iff_eq.mpr c16
              have c16b1 : (t244 != t246) = false := bne_eq_false_iff_eq.mpr c16
              clear c16
              replace H := Option.bind_eq_some_iff.mp H
              obtain ⟨t247, A170, H⟩ := H
              replace H : ((masterdiscref20_Size.f kj5 a1 a2).bind fun t248 => (some (t247 == t248))) = some r := H
              have A17 := Aside0.mk A170
              clear A170
              replace H := Option.bind_eq_some_iff.mp H
              obtain ⟨t248, A180, H⟩ := H
              replace H : (some (t247 == t248)) = some r := H
              have A18 := Aside0.mk A180
              clear A180
              obtain rfl := Option.some.inj H
              have hcz19_0 : wc.cell? ⟨gb241, 0, none⟩ = some (.string a0_0) := (blk_cell BK241.out 0).trans rfl
              have hcz19_1 : wc.cell? ⟨gb241, 1, none⟩ = some (.int .i64 a0_1) := (blk_cell BK241.out 1).trans rfl
              have hcz19_2 : wc.cell? ⟨gb241, 2, none⟩ = some (.int .i64 a0_2) := (blk_cell BK241.out 2).trans rfl
              have hcz19_3 : wc.cell? ⟨gb241, 3, none⟩ = some (.int .i64 a0_3) := (blk_cell BK241.out 3).trans rfl
              have hcz19_4 : wc.cell? ⟨gb241, 4, none⟩ = some (.int .i64 a0_4) := (blk_cell BK241.out 4).trans rfl
              have hcz19_5 : wc.cell? ⟨gb241, 5, none⟩ = some (.int .i64 a0_5) := (blk_cell BK241.out 5).trans rfl
              have hcz19_6 : wc.cell? ⟨gb241, 6, none⟩ = some (.int .i64 a0_6) := (blk_cell BK241.out 6).trans rfl
              have hcz19_7 : wc.cell? ⟨gb241, 7, none⟩ = some (.string a0_7) := (blk_cell BK241.out 7).trans rfl
              have hfz19_0 := blk_frozen BK241.out 0
              have hfz19_1 := blk_frozen BK241.out 1
              have hfz19_2 := blk_frozen BK241.out 2
              have hfz19_3 := blk_frozen BK241.out 3
              have hfz19_4 := blk_frozen BK241.out 4
              have hfz19_5 := blk_frozen BK241.out 5
              have hfz19_6 := blk_frozen BK241.out 6
              have hfz19_7 := blk_frozen BK241.out 7
              go_wp2_with (first | ((with_reducible refine gate_callee (f := 11) rfl ?_); refine goesL_ (some 25) rfl rfl Try.func11 (by kernel_rfl) rfl #[.agg #[.string a0_0, .int .i64 a0_1, .int .i64 a0_2, .int .i64 a0_3, .int .i64 a0_4, .int .i64 a0_5, .int .i64 a0_6, .string a0_7]] rfl (by (try simp only [List.map_toArray, List.map_cons, List.map_nil]); first | done | rfl | (simp only [List.length_drop, List.length_take]; rfl)) ?_; (with_reducible refine (dirrecord_Encode.calls kj5 a0_0 a0_1 a0_2 a0_3 a0_4 a0_5 a0_6 a0_7 t243 t244 _ A13.out).mono ?_); rintro e w20 ⟨rfl, hb⟩; refine ⟨_, rfl, ?_⟩; have n0_ := Aside0.mk (blk_below (g := gb241) (o := .cells #[.string a0_0, .int .i64 a0_1, .int .i64 a0_2, .int .i64 a0_3, .int .i64 a0_4, .int .i64 a0_5, .int .i64 a0_6, .string a0_7] 23 (0, 0)) (by (with_reducible repeat (first | refine blk_drewN ?_ _ | refine blk_drew ?_ | refine blk_alloc ?_ _)); exact BK241.out) hb); have n1_ := Aside0.mk (below_step (by repeat (first | (with_reducible first | exact HB.out | apply below_alloc | apply pw_below_drewN | apply below_drew1 | refine below_set ?_ GE241.out) | exact HB.out)) hb); clear BK241; clear HB; have BK241 := n0_; have HB := n1_; clear n0_ n1_; (try clear hb); (try clear hb2); (try clear hk); (try clear hi); have hcz21_0 : w20.cell? ⟨gb241, 0, none⟩ = some (.string a0_0) := (blk_cell BK241.out 0).trans rfl; have hcz21_1 : w20.cell? ⟨gb241, 1, none⟩ = some (.int .i64 a0_1) := (blk_cell BK241.out 1).trans rfl; have hcz21_2 : w20.cell? ⟨gb241, 2, none⟩ = some (.int .i64 a0_2) := (blk_cell BK241.out 2).trans rfl; have hcz21_3 : w20.cell? ⟨gb241, 3, none⟩ = some (.int .i64 a0_3) := (blk_cell BK241.out 3).trans rfl; have hcz21_4 : w20.cell? ⟨gb241, 4, none⟩ = some (.int .i64 a0_4) := (blk_cell BK241.out 4).trans rfl; have hcz21_5 : w20.cell? ⟨gb241, 5, none⟩ = some (.int .i64 a0_5) := (blk_cell BK241.out 5).trans rfl; have hcz21_6 : w20.cell? ⟨gb241, 6, none⟩ = some (.int .i64 a0_6) := (blk_cell BK241.out 6).trans rfl; have hcz21_7 : w20.cell? ⟨gb241, 7, none⟩ = some (.string a0_7) := (blk_cell BK241.out 7).trans rfl; have hfz21_0 := blk_frozen BK241.out 0; have hfz21_1 := blk_frozen BK241.out 1; have hfz21_2 := blk_frozen BK241.out 2; have hfz21_3 := blk_frozen BK241.out 3; have hfz21_4 := blk_frozen BK241.out 4; have hfz21_5 := blk_frozen BK241.out 5; have hfz21_6 := blk_frozen BK241.out 6; have hfz21_7 := blk_frozen BK241.out 7) | ((with_reducible refine gate_callee (f := 12) rfl ?_); refine goesL_ (some 30) rfl rfl Try.func12 (by kernel_rfl) rfl #[.agg #[.string a0_0, .int .i64 a0_1, .int .i64 a0_2, .int .i64 a0_3, .int .i64 a0_4, .int .i64 a0_5, .int .i64 a0_6, .string a0_7]] rfl (by (try simp only [List.map_toArray, List.map_cons, List.map_nil]); first | done | rfl | (simp only [List.length_drop, List.length_take]; rfl)) ?_; (with_reducible refine (masterdiscref20_Encode.calls kj5 a0_0 a0_1 a0_2 a0_3 a0_4 a0_5 a0_6 a0_7 t245 t246 _ A14.out).mono ?_); rintro e w22 ⟨rfl, hb⟩; refine ⟨_, rfl, ?_⟩; have n0_ := Aside0.mk (blk_below (g := gb241) (o := .cells #[.string a0_0, .int .i64 a0_1, .int .i64 a0_2, .int .i64 a0_3, .int .i64 a0_4, .int .i64 a0_5, .int .i64 a0_6, .string a0_7] 23 (0, 0)) (by (with_reducible repeat (first | refine blk_drewN ?_ _ | refine blk_drew ?_ | refine blk_alloc ?_ _)); exact BK241.out) hb); have n1_ := Aside0.mk (below_step (by repeat (first | (with_reducible first | exact HB.out | apply below_alloc | apply pw_below_drewN | apply below_drew1 | refine below_set ?_ GE241.out) | exact HB.out)) hb); clear BK241; clear HB; have BK241 := n0_; have HB := n1_; clear n0_ n1_; (try clear hb); (try clear hb2); (try clear hk); (try clear hi)) | (go_at_call 13; (with_reducible refine (dirrecord_Size.calls kj5 a1 a2 t247 _ A17.out).mono ?_); rintro e w' ⟨rfl, ⟨nd, rfl⟩⟩) | (go_at_call 14; (with_reducible refine (masterdiscref20_Size.calls kj5 a1 a2 t248 _ A18.out).mono ?_); rintro e w' ⟨rfl, ⟨nd, rfl⟩⟩))
              go_ret
              exact ⟨by first | rfl | (simp [errW_none, errW_some] <;> rfl) | (simp [*, errW_none, errW_some] <;> rfl), by repeat (first | (with_reducible first | exact HB.out | apply below_alloc | apply pw_below_drewN | apply below_drew1 | refine below_set ?_ GE241.out) | exact HB.out)⟩
            · rw [if_neg c16] at H
              have c16b0 : (t244 == t246) = false := beq_eq_false_iff_ne.mpr c16
              have c16b1 : (t244 != t246) = true := bne_iff_ne.mpr c16
              obtain rfl := Option.some.inj H
              have hcz23_0 : wc.cell? ⟨gb241, 0, none⟩ = some (.string a0_0) := (blk_cell BK241.out 0).trans rfl
              have hcz23_1 : wc.cell? ⟨gb241, 1, none⟩ = some (.int .i64 a0_1) := (blk_cell BK241.out 1).trans rfl
              have hcz23_2 : wc.cell? ⟨gb241, 2, none⟩ = some (.int .i64 a0_2) := (blk_cell BK241.out 2).trans rfl
              have hcz23_3 : wc.cell? ⟨gb241, 3, none⟩ = some (.int .i64 a0_3) := (blk_cell BK241.out 3).trans rfl
              have hcz23_4 : wc.cell? ⟨gb241, 4, none⟩ = some (.int .i64 a0_4) := (blk_cell BK241.out 4).trans rfl
              have hcz23_5 : wc.cell? ⟨gb241, 5, none⟩ = some (.int .i64 a0_5) := (blk_cell BK241.out 5).trans rfl
              have hcz23_6 : wc.cell? ⟨gb241, 6, none⟩ = some (.int .i64 a0_6) := (blk_cell BK241.out 6).trans rfl
              have hcz23_7 : wc.cell? ⟨gb241, 7, none⟩ = some (.string a0_7) := (blk_cell BK241.out 7).trans rfl
              have hfz23_0 := blk_frozen BK241.out 0
              have hfz23_1 := blk_frozen BK241.out 1
              have hfz23_2 := blk_frozen BK241.out 2
              have hfz23_3 := blk_frozen BK241.out 3
              have hfz23_4 := blk_frozen BK241.out 4
              have hfz23_5 := blk_frozen BK241.out 5
              have hfz23_6 := blk_frozen BK241.out 6
              have hfz23_7 := blk_frozen BK241.out 7
              go_wp2_with (first | ((with_reducible refine gate_callee (f := 11) rfl ?_); refine goesL_ (some 25) rfl rfl Try.func11 (by kernel_rfl) rfl #[.agg #[.string a0_0, .int .i64 a0_1, .int .i64 a0_2, .int .i64 a0_3, .int .i64 a0_4, .int .i64 a0_5, .int .i64 a0_6, .string a0_7]] rfl (by (try simp only [List.map_toArray, List.map_cons, List.map_nil]); first | done | rfl | (simp only [List.length_drop, List.length_take]; rfl)) ?_; (with_reducible refine (dirrecord_Encode.calls kj5 a0_0 a0_1 a0_2 a0_3 a0_4 a0_5 a0_6 a0_7 t243 t244 _ A13.out).mono ?_); rintro e w24 ⟨rfl, hb⟩; refine ⟨_, rfl, ?_⟩; have n0_ := Aside0.mk (blk_below (g := gb241) (o := .cells #[.string a0_0, .int .i64 a0_1, .int .i64 a0_2, .int .i64 a0_3, .int .i64 a0_4, .int .i64 a0_5, .int .i64 a0_6, .string a0_7] 23 (0, 0)) (by (with_reducible repeat (first | refine blk_drewN ?_ _ | refine blk_drew ?_ | refine blk_alloc ?_ _)); exact BK241.out) hb); have n1_ := Aside0.mk (below_step (by repeat (first | (with_reducible first | exact HB.out | apply below_alloc | apply pw_below_drewN | apply below_drew1 | refine below_set ?_ GE241.out) | exact HB.out)) hb); clear BK241; clear HB; have BK241 := n0_; have HB := n1_; clear n0_ n1_; (try clear hb); (try clear hb2); (try clear hk); (try clear hi); have hcz25_0 : w24.cell? ⟨gb241, 0, none⟩ = some (.string a0_0) := (blk_cell BK241.out 0).trans rfl; have hcz25_1 : w24.cell? ⟨gb241, 1, none⟩ = some (.int .i64 a0_1) := (blk_cell BK241.out 1).trans rfl; have hcz25_2 : w24.cell? ⟨gb241, 2, none⟩ = some (.int .i64 a0_2) := (blk_cell BK241.out 2).trans rfl; have hcz25_3 : w24.cell? ⟨gb241, 3, none⟩ = some (.int .i64 a0_3) := (blk_cell BK241.out 3).trans rfl; have hcz25_4 : w24.cell? ⟨gb241, 4, none⟩ = some (.int .i64 a0_4) := (blk_cell BK241.out 4).trans rfl; have hcz25_5 : w24.cell? ⟨gb241, 5, none⟩ = some (.int .i64 a0_5) := (blk_cell BK241.out 5).trans rfl; have hcz25_6 : w24.cell? ⟨gb241, 6, none⟩ = some (.int .i64 a0_6) := (blk_cell BK241.out 6).trans rfl; have hcz25_7 : w24.cell? ⟨gb241, 7, none⟩ = some (.string a0_7) := (blk_cell BK241.out 7).trans rfl; have hfz25_0 := blk_frozen BK241.out 0; have hfz25_1 := blk_frozen BK241.out 1; have hfz25_2 := blk_frozen BK241.out 2; have hfz25_3 := blk_frozen BK241.out 3; have hfz25_4 := blk_frozen BK241.out 4; have hfz25_5 := blk_frozen BK241.out 5; have hfz25_6 := blk_frozen BK241.out 6; have hfz25_7 := blk_frozen BK241.out 7) | ((with_reducible refine gate_callee (f := 12) rfl ?_); refine goesL_ (some 30) rfl rfl Try.func12 (by kernel_rfl) rfl #[.agg #[.string a0_0, .int .i64 a0_1, .int .i64 a0_2, .int .i64 a0_3, .int .i64 a0_4, .int .i64 a0_5, .int .i64 a0_6, .string a0_7]] rfl (by (try simp only [List.map_toArray, List.map_cons, List.map_nil]); first | done | rfl | (simp only [List.length_drop, List.length_take]; rfl)) ?_; (with_reducible refine (masterdiscref20_Encode.calls kj5 a0_0 a0_1 a0_2 a0_3 a0_4 a0_5 a0_6 a0_7 t245 t246 _ A14.out).mono ?_); rintro e w26 ⟨rfl, hb⟩; refine ⟨_, rfl, ?_⟩; have n0_ := Aside0.mk (blk_below (g := gb241) (o := .cells #[.string a0_0, .int .i64 a0_1, .int .i64 a0_2, .int .i64 a0_3, .int .i64 a0_4, .int .i64 a0_5, .int .i64 a0_6, .string a0_7] 23 (0, 0)) (by (with_reducible repeat (first | refine blk_drewN ?_ _ | refine blk_drew ?_ | refine blk_alloc ?_ _)); exact BK241.out) hb); have n1_ := Aside0.mk (below_step (by repeat (first | (with_reducible first | exact HB.out | apply below_alloc | apply pw_below_drewN | apply below_drew1 | refine below_set ?_ GE241.out) | exact HB.out)) hb); clear BK241; clear HB; have BK241 := n0_; have HB := n1_; clear n0_ n1_; (try clear hb); (try clear hb2); (try clear hk); (try clear hi)))
              go_ret
              exact ⟨by first | rfl | (simp [errW_none, errW_some] <;> rfl) | (simp [*, errW_none, errW_some] <;> rfl), by repeat (first | (with_reducible first | exact HB.out | apply below_alloc | apply pw_below_drewN | apply below_drew1 | refine below_set ?_ GE241.out) | exact HB.out)⟩
          · rw [if_neg c15] at H
            have c15b0 : (t243.toList == t245.toList) = false := beq_eq_false_iff_ne.mpr c15
            have c15b1 : (t243.toList != t245.toList) = true := bne_iff_ne.mpr c15
            obtain rfl := Option.some.inj H
            have hcz27_0 : wc.cell? ⟨gb241, 0, none⟩ = some (.string a0_0) := (blk_cell BK241.out 0).trans rfl
            have hcz27_1 : wc.cell? ⟨gb241, 1, none⟩ = some (.int .i64 a0_1) := (blk_cell BK241.out 1).trans rfl
            have hcz27_2 : wc.cell? ⟨gb241, 2, none⟩ = some (.int .i64 a0_2) := (blk_cell BK241.out 2).trans rfl
            have hcz27_3 : wc.cell? ⟨gb241, 3, none⟩ = some (.int .i64 a0_3) := (blk_cell BK241.out 3).trans rfl
            have hcz27_4 : wc.cell? ⟨gb241, 4, none⟩ = some (.int .i64 a0_4) := (blk_cell BK241.out 4).trans rfl
            have hcz27_5 : wc.cell? ⟨gb241, 5, none⟩ = some (.int .i64 a0_5) := (blk_cell BK241.out 5).trans rfl
            have hcz27_6 : wc.cell? ⟨gb241, 6, none⟩ = some (.int .i64 a0_6) := (blk_cell BK241.out 6).trans rfl
            have hcz27_7 : wc.cell? ⟨gb241, 7, none⟩ = some (.string a0_7) := (blk_cell BK241.out 7).trans rfl
            have hfz27_0 := blk_frozen BK241.out 0
            have hfz27_1 := blk_frozen BK241.out 1
            have hfz27_2 := blk_frozen BK241.out 2
            have hfz27_3 := blk_frozen BK241.out 3
            have hfz27_4 := blk_frozen BK241.out 4
            have hfz27_5 := blk_frozen BK241.out 5
            have hfz27_6 := blk_frozen BK241.out 6
            have hfz27_7 := blk_frozen BK241.out 7
            go_wp2_with (first | ((with_reducible refine gate_callee (f := 11) rfl ?_); refine goesL_ (some 25) rfl rfl Try.func11 (by kernel_rfl) rfl #[.agg #[.string a0_0, .int .i64 a0_1, .int .i64 a0_2, .int .i64 a0_3, .int .i64 a0_4, .int .i64 a0_5, .int .i64 a0_6, .string a0_7]] rfl (by (try simp only [List.map_toArray, List.map_cons, List.map_nil]); first | done | rfl | (simp only [List.length_drop, List.length_take]; rfl)) ?_; (with_reducible refine (dirrecord_Encode.calls kj5 a0_0 a0_1 a0_2 a0_3 a0_4 a0_5 a0_6 a0_7 t243 t244 _ A13.out).mono ?_); rintro e w28 ⟨rfl, hb⟩; refine ⟨_, rfl, ?_⟩; have n0_ := Aside0.mk (blk_below (g := gb241) (o := .cells #[.string a0_0, .int .i64 a0_1, .int .i64 a0_2, .int .i64 a0_3, .int .i64 a0_4, .int .i64 a0_5, .int .i64 a0_6, .string a0_7] 23 (0, 0)) (by (with_reducible repeat (first | refine blk_drewN ?_ _ | refine blk_drew ?_ | refine blk_alloc ?_ _)); exact BK241.out) hb); have n1_ := Aside0.mk (below_step (by repeat (first | (with_reducible first | exact HB.out | apply below_alloc | apply pw_below_drewN | apply below_drew1 | refine below_set ?_ GE241.out) | exact HB.out)) hb); clear BK241; clear HB; have BK241 := n0_; have HB := n1_; clear n0_ n1_; (try clear hb); (try clear hb2); (try clear hk); (try clear hi); have hcz29_0 : w28.cell? ⟨gb241, 0, none⟩ = some (.string a0_0) := (blk_cell BK241.out 0).trans rfl; have hcz29_1 : w28.cell? ⟨gb241, 1, none⟩ = some (.int .i64 a0_1) := (blk_cell BK241.out 1).trans rfl; have hcz29_2 : w28.cell? ⟨gb241, 2, none⟩ = some (.int .i64 a0_2) := (blk_cell BK241.out 2).trans rfl; have hcz29_3 : w28.cell? ⟨gb241, 3, none⟩ = some (.int .i64 a0_3) := (blk_cell BK241.out 3).trans rfl; have hcz29_4 : w28.cell? ⟨gb241, 4, none⟩ = some (.int .i64 a0_4) := (blk_cell BK241.out 4).trans rfl; have hcz29_5 : w28.cell? ⟨gb241, 5, none⟩ = some (.int .i64 a0_5) := (blk_cell BK241.out 5).trans rfl; have hcz29_6 : w28.cell? ⟨gb241, 6, none⟩ = some (.int .i64 a0_6) := (blk_cell BK241.out 6).trans rfl; have hcz29_7 : w28.cell? ⟨gb241, 7, none⟩ = some (.string a0_7) := (blk_cell BK241.out 7).trans rfl; have hfz29_0 := blk_frozen BK241.out 0; have hfz29_1 := blk_frozen BK241.out 1; have hfz29_2 := blk_frozen BK241.out 2; have hfz29_3 := blk_frozen BK241.out 3; have hfz29_4 := blk_frozen BK241.out 4; have hfz29_5 := blk_frozen BK241.out 5; have hfz29_6 := blk_frozen BK241.out 6; have hfz29_7 := blk_frozen BK241.out 7) | ((with_reducible refine gate_callee (f := 12) rfl ?_); refine goesL_ (some 30) rfl rfl Try.func12 (by kernel_rfl) rfl #[.agg #[.string a0_0, .int .i64 a0_1, .int .i64 a0_2, .int .i64 a0_3, .int .i64 a0_4, .int .i64 a0_5, .int .i64 a0_6, .string a0_7]] rfl (by (try simp only [List.map_toArray, List.map_cons, List.map_nil]); first | done | rfl | (simp only [List.length_drop, List.length_take]; rfl)) ?_; (with_reducible refine (masterdiscref20_Encode.calls kj5 a0_0 a0_1 a0_2 a0_3 a0_4 a0_5 a0_6 a0_7 t245 t246 _ A14.out).mono ?_); rintro e w30 ⟨rfl, hb⟩; refine ⟨_, rfl, ?_⟩; have n0_ := Aside0.mk (blk_below (g := gb241) (o := .cells #[.string a0_0, .int .i64 a0_1, .int .i64 a0_2, .int .i64 a0_3, .int .i64 a0_4, .int .i64 a0_5, .int .i64 a0_6, .string a0_7] 23 (0, 0)) (by (with_reducible repeat (first | refine blk_drewN ?_ _ | refine blk_drew ?_ | refine blk_alloc ?_ _)); exact BK241.out) hb); have n1_ := Aside0.mk (below_step (by repeat (first | (with_reducible first | exact HB.out | apply below_alloc | apply pw_below_drewN | apply below_drew1 | refine below_set ?_ GE241.out) | exact HB.out)) hb); clear BK241; clear HB; have BK241 := n0_; have HB := n1_; clear n0_ n1_; (try clear hb); (try clear hb2); (try clear hk); (try clear hi)))
            go_ret
            exact ⟨by first | rfl | (simp [errW_none, errW_some] <;> rfl) | (simp [*, errW_none, errW_some] <;> rfl), by repeat (first | (with_reducible first | exact HB.out | apply below_alloc | apply pw_below_drewN | apply below_drew1 | refine below_set ?_ GE241.out) | exact HB.out)⟩
  · replace c5 := Bool.eq_false_iff.mpr c5
    subst c5
    have H1 : (some false) = some r := by rw [if_neg (show ¬ (false = true) by decide)] at H; exact H
    clear H
    have H := H1
    clear H1
    obtain rfl := Option.some.inj H
    go_enter Try.func3, Try.ntmps3
    go_wp2_with (first | ((with_reducible refine gate_dst (N := 3) rfl ?_); (try (refine gate_guard (by rfl) ?_; dsimp only)); refine box_event ?hg (N := 3) ?hd (cs := #[.string a0_0, .int .i64 a0_1, .int .i64 a0_2, .int .i64 a0_3, .int .i64 a0_4, .int .i64 a0_5, .int .i64 a0_6, .string a0_7]) (t := 23) ?hr ?_; (case hd => rfl); (case hg => rfl); (case hr => first | (go_simp; done) | (go_simp; rfl)); intro gb241 hg w31 hbox hb; have n0_ := Aside0.mk (below_step (by repeat (first | (with_reducible first | exact HB.out | apply below_alloc | apply pw_below_drewN | apply below_drew1) | exact HB.out)) hb); have n1_ := Aside0.mk (hbox); have n2_ := Aside0.mk ((by rw [hg]; exact (below_size (by repeat (first | (with_reducible first | exact HB.out | apply below_alloc | apply pw_below_drewN | apply below_drew1) | exact HB.out))) : w.heap.size ≤ gb241)); have n3_ := Aside0.mk ((by rw [hg]; exact (below_size (by repeat (first | (with_reducible first | exact HB.out | apply below_alloc | apply pw_below_drewN | apply below_drew1) | exact HB.out))) : w.heap.size ≤ gb241)); clear HB; have HB := n0_; have BK241 := n1_; have GW241 := n2_; have GE241 := n3_; clear n0_ n1_ n2_ n3_; clear hb hbox hg) | ((with_reducible refine gate_callee (f := 10) rfl ?_); refine goesL_ (some 11) rfl rfl Try.func10 (by kernel_rfl) rfl #[] rfl (by (try simp only [List.map_toArray, List.map_cons, List.map_nil]); first | done | rfl | (simp only [List.length_drop, List.length_take]; rfl)) ?_; (with_reducible refine (masterdisclaw20_awake.calls  false _ A4.out).mono ?_); rintro e w32 ⟨rfl, hb⟩; refine ⟨_, rfl, ?_⟩; have n0_ := Aside0.mk (blk_below (g := gb241) (o := .cells #[.string a0_0, .int .i64 a0_1, .int .i64 a0_2, .int .i64 a0_3, .int .i64 a0_4, .int .i64 a0_5, .int .i64 a0_6, .string a0_7] 23 (0, 0)) (by (with_reducible repeat (first | refine blk_drewN ?_ _ | refine blk_drew ?_ | refine blk_alloc ?_ _)); exact BK241.out) hb); have n1_ := Aside0.mk (below_step (by repeat (first | (with_reducible first | exact HB.out | apply below_alloc | apply pw_below_drewN | apply below_drew1 | refine below_set ?_ GE241.out) | exact HB.out)) hb); clear BK241; clear HB; have BK241 := n0_; have HB := n1_; clear n0_ n1_; (try clear hb); (try clear hb2); (try clear hk); (try clear hi)))
    go_ret
    exact ⟨by first | rfl | (simp [errW_none, errW_some] <;> rfl) | (simp [*, errW_none, errW_some] <;> rfl), by repeat (first | (with_reducible first | exact HB.out | apply below_alloc | apply pw_below_drewN | apply below_drew1 | refine below_set ?_ GE241.out) | exact HB.out)⟩

/-! ### masterdiscref16_zone: function 55 -/
end Go.Proofs.Ytagnefbgclpccaa.A
