-- Written by a program of this session's, hprint.py, out of the translation. Not trusted: Lean checks it.
import Derived.Test.YtagnefbgclpccaaAx0
import Derived.Test.YtagnefbgclpccaaAx11
import Derived.Test.YtagnefbgclpccaaAx12
import Derived.Test.YtagnefbgclpccaaAx13
namespace Go.Proofs.Ytagnefbgclpccaa.A
open Go.RowKit Go.Proofs.Ytagnefbgclpccaa.H Go.Proofs.YtagnefbgclpccaaW.PrintWords Go.Proofs.YtagnefbgclpccaaW.PrintLast Go.Proofs.YtagnefbgclpccaaW.PrintMore
attribute [local go_sem] max2_int min2_int max_two min_two max_three min_three max_four min_four   -- for this text's walks alone
set_option linter.unusedVariables false
set_option linter.unusedSimpArgs false

/-! ### masterdiscref20_Encode: function 12 -/
mutual
def masterdiscref20_Encode.j0 : Nat → Bool → ByteArray → Int → Int → Int → Int → Int → Int → ByteArray → Option (ByteArray × Int)
  | 0, _, _, _, _, _, _, _, _, _ => none
  | k + 1, x18, x222000, x222001, x222002, x222003, x222004, x222005, x222006, x222007 => if x18 = true then (some ((⟨#[]⟩ : ByteArray), 1)) else ((masterdiscref20_Size.f k (x222000.size : Int) (x222007.size : Int)).bind fun t222 => (if t222 = 0 then (some ((⟨#[]⟩ : ByteArray), 7)) else ((masterdiscref16_Record.f k x222003 x222004).bind fun bt223 => ((masterdiscref20_fits.f x222001 4294967295).bind fun t225 => (if t225 = true then ((masterdiscref20_fits.f x222002 4294967295).bind fun t226 => (if t226 = true then ((masterdiscref20_fits.f x222005 255).bind fun t227 => (if t227 = true then ((masterdiscref20_fits.f x222006 65535).bind fun t228 => (if t228 = true then (masterdiscref20_Encode.j1 k t222 bt223.1 (bt223.2 != 0) x222000 x222001 x222002 x222003 x222004 x222005 x222006 x222007) else (masterdiscref20_Encode.j1 k t222 bt223.1 true x222000 x222001 x222002 x222003 x222004 x222005 x222006 x222007))) else (masterdiscref20_Encode.j1 k t222 bt223.1 true x222000 x222001 x222002 x222003 x222004 x222005 x222006 x222007))) else (masterdiscref20_Encode.j1 k t222 bt223.1 true x222000 x222001 x222002 x222003 x222004 x222005 x222006 x222007))) else (masterdiscref20_Encode.j1 k t222 bt223.1 true x222000 x222001 x222002 x222003 x222004 x222005 x222006 x222007))))))
def masterdiscref20_Encode.j1 : Nat → Int → ByteArray → Bool → ByteArray → Int → Int → Int → Int → Int → Int → ByteArray → Option (ByteArray × Int)
  | 0, _, _, _, _, _, _, _, _, _, _, _ => none
  | k + 1, x4, x5, x61, x222000, x222001, x222002, x222003, x222004, x222005, x222006, x222007 => if x61 = true then (some ((⟨#[]⟩ : ByteArray), 2)) else ((some (([(x4) % 256, 0] : List Int) : List Int)).bind fun y229 => ((masterdiscref20_both.f k x222001 4).bind fun t232 => (if (strOfNums y229).size + t232.size ≤ 9223372036854775807 then ((masterdiscref20_both.f k x222002 4).bind fun t233 => (if ((strOfNums y229) ++ t232).size + t233.size ≤ 9223372036854775807 then (if (((strOfNums y229) ++ t232) ++ t233).size + x5.size ≤ 9223372036854775807 then ((some (([(x222005) % 256, 0, 0] : List Int) : List Int)).bind fun y234 => (if ((((strOfNums y229) ++ t232) ++ t233) ++ x5).size + (strOfNums y234).size ≤ 9223372036854775807 then ((masterdiscref20_both.f k x222006 2).bind fun t237 => (if (((((strOfNums y229) ++ t232) ++ t233) ++ x5) ++ (strOfNums y234)).size + t237.size ≤ 9223372036854775807 then ((some (([((x222000.size : Int)) % 256] : List Int) : List Int)).bind fun y238 => (if ((((((strOfNums y229) ++ t232) ++ t233) ++ x5) ++ (strOfNums y234)) ++ t237).size + (strOfNums y238).size ≤ 9223372036854775807 then (if (((((((strOfNums y229) ++ t232) ++ t233) ++ x5) ++ (strOfNums y234)) ++ t237) ++ (strOfNums y238)).size + x222000.size ≤ 9223372036854775807 then (if ((x222000.size : Int) % 2) = 0 then (if ((((((((strOfNums y229) ++ t232) ++ t233) ++ x5) ++ (strOfNums y234)) ++ t237) ++ (strOfNums y238)) ++ x222000).size + 1 ≤ 9223372036854775807 then (if (((((((((strOfNums y229) ++ t232) ++ t233) ++ x5) ++ (strOfNums y234)) ++ t237) ++ (strOfNums y238)) ++ x222000) ++ (⟨#[0]⟩ : ByteArray)).size + x222007.size ≤ 9223372036854775807 then (some ((((((((((strOfNums y229) ++ t232) ++ t233) ++ x5) ++ (strOfNums y234)) ++ t237) ++ (strOfNums y238)) ++ x222000) ++ (⟨#[0]⟩ : ByteArray)) ++ x222007, 0)) else (none)) else (none)) else (if ((((((((strOfNums y229) ++ t232) ++ t233) ++ x5) ++ (strOfNums y234)) ++ t237) ++ (strOfNums y238)) ++ x222000).size + x222007.size ≤ 9223372036854775807 then (some (((((((((strOfNums y229) ++ t232) ++ t233) ++ x5) ++ (strOfNums y234)) ++ t237) ++ (strOfNums y238)) ++ x222000) ++ x222007, 0)) else (none))) else (none)) else (none))) else (none))) else (none))) else (none)) else (none))) else (none))))
end
def masterdiscref20_Encode.f (k : Nat) (a0_0 : ByteArray) (a0_1 : Int) (a0_2 : Int) (a0_3 : Int) (a0_4 : Int) (a0_5 : Int) (a0_6 : Int) (a0_7 : ByteArray) : Option (ByteArray × Int) := if (a0_0.size : Int) = 0 then (masterdiscref20_Encode.j0 k true a0_0 a0_1 a0_2 a0_3 a0_4 a0_5 a0_6 a0_7) else (masterdiscref20_Encode.j0 k (((a0_7.size : Int) % 2) == 1) a0_0 a0_1 a0_2 a0_3 a0_4 a0_5 a0_6 a0_7)
def masterdiscref20_Encode.T9 : Bool × List (List Nat × List Nat) := (true, [([], []), ([0], [0]), ([1], [1]), ([2], [2]), ([], []), ([4], [4]), ([5], [5]), ([3, 6], [3, 6]), ([], []), ([8], [8]), ([9, 6], [9]), ([7, 10], [7, 10]), ([], []), ([11, 12], [11, 12]), ([], []), ([14], [14]), ([15], [15]), ([16], [16]), ([17], [17]), ([13, 18], [13, 18]), ([], []), ([20], [20]), ([21, 10], [21]), ([19, 22], [19, 22]), ([], []), ([24], [24]), ([25], [25]), ([26], [26]), ([27], [27]), ([28], [28]), ([23, 29], [23, 29]), ([], []), ([31], [31]), ([30, 32], [30, 32]), ([33, 22, 0, 1, 2, 3, 4, 5, 6, 7, 8, 9, 10, 11, 12, 13, 14, 15, 16, 17, 18, 19, 20, 21, 22, 23, 24, 25, 26, 27, 28, 29, 30, 31, 32, 33], [33])])
def masterdiscref20_Encode.B9 : List Nat := [0, 1, 3, 7, 0, 16, 48, 127, 0, 256, 880, 2047, 0, 8191, 0, 16384, 49152, 114688, 245760, 524287, 0, 1048576, 3147632, 8388607, 0, 16777216, 50331648, 117440512, 251658240, 520093696, 1073741823, 0, 2147483648, 8589934591, 17179869183]
theorem masterdiscref20_Encode.tab9 : rtab .any (opsOf Try.f12 9) = masterdiscref20_Encode.T9 := by kernel_rfl
theorem masterdiscref20_Encode.bits9 : waitsOk masterdiscref20_Encode.T9.2 masterdiscref20_Encode.B9 = true := by kernel_rfl
set_option maxHeartbeats 8000000 in
set_option maxRecDepth 100000 in
theorem masterdiscref20_Encode.calls (k : Nat) (a0_0 : ByteArray) (a0_1 : Int) (a0_2 : Int) (a0_3 : Int) (a0_4 : Int) (a0_5 : Int) (a0_6 : Int) (a0_7 : ByteArray) (r1 : ByteArray) (r2 : Int) (w : World) (h : masterdiscref20_Encode.f k a0_0 a0_1 a0_2 a0_3 a0_4 a0_5 a0_6 a0_7 = some (r1, r2)) :
    Calls Try.prog 12 #[.agg #[.string a0_0, .int .i64 a0_1, .int .i64 a0_2, .int .i64 a0_3, .int .i64 a0_4, .int .i64 a0_5, .int .i64 a0_6, .string a0_7]] w fun e w' => e = .returned (.tuple #[.string r1, .int .i64 r2]) ∧ Below w.heap.size w w' := by
  have hu23 := Try.underlying23
  have HB := Aside0.mk (Below.refl w.heap.size w)
  have H : (if (a0_0.size : Int) = 0 then (masterdiscref20_Encode.j0 k true a0_0 a0_1 a0_2 a0_3 a0_4 a0_5 a0_6 a0_7) else (masterdiscref20_Encode.j0 k (((a0_7.size : Int) % 2) == 1) a0_0 a0_1 a0_2 a0_3 a0_4 a0_5 a0_6 a0_7)) = some (r1, r2) := h
  clear h
  have HC2 := Aside0.mk H
  clear H
  go_enter Try.func12, Try.ntmps12
  go_upto_region 1 with (first | ((with_reducible refine gate_dst (N := 1) rfl ?_); (try (refine gate_guard (by rfl) ?_; dsimp only)); refine box_event ?hg (N := 1) ?hd (cs := #[.string a0_0, .int .i64 a0_1, .int .i64 a0_2, .int .i64 a0_3, .int .i64 a0_4, .int .i64 a0_5, .int .i64 a0_6, .string a0_7]) (t := 23) ?hr ?_; (case hd => rfl); (case hg => rfl); (case hr => first | (go_simp; done) | (go_simp; rfl)); intro gb221 hg w3 hbox hb; have n0_ := Aside0.mk (below_step (by repeat (first | (with_reducible first | exact HB.out | apply below_alloc | apply pw_below_drewN | apply below_drew1) | exact HB.out)) hb); have n1_ := Aside0.mk (hbox); have n2_ := Aside0.mk ((by rw [hg]; exact (below_size (by repeat (first | (with_reducible first | exact HB.out | apply below_alloc | apply pw_below_drewN | apply below_drew1) | exact HB.out))) : w.heap.size ≤ gb221)); have n3_ := Aside0.mk ((by rw [hg]; exact (below_size (by repeat (first | (with_reducible first | exact HB.out | apply below_alloc | apply pw_below_drewN | apply below_drew1) | exact HB.out))) : w.heap.size ≤ gb221)); clear HB; have HB := n0_; have BK221 := n1_; have GW221 := n2_; have GE221 := n3_; clear n0_ n1_ n2_ n3_; clear hb hbox hg))
  (try simp only [Act.put, List.setIfInBounds_toArray, List.set_cons_zero, List.set_cons_succ])
  go_cut [18] (fun v18 wc => ∃ (kq : Nat) (x18_1 : Bool), v18 = .bool x18_1 ∧ Aside0 (masterdiscref20_Encode.j0 kq x18_1 a0_0 a0_1 a0_2 a0_3 a0_4 a0_5 a0_6 a0_7 = some (r1, r2)) ∧ Aside0 (kq ≤ k) ∧ Aside0 (wc.heap[gb221]? = some (.cells #[.string a0_0, .int .i64 a0_1, .int .i64 a0_2, .int .i64 a0_3, .int .i64 a0_4, .int .i64 a0_5, .int .i64 a0_6, .string a0_7] 23 (0, 0))) ∧ Aside0 (Below w.heap.size w wc))
  case first =>
    have H := HC2.out
    clear HC2
    by_cases c4 : (a0_0.size : Int) = 0
    · rw [if_pos c4] at H
      have c4b0 : ((a0_0.size : Int) == 0) = true := beq_iff_eq.mpr c4
      have c4b1 : ((a0_0.size : Int) != 0) = false := bne_eq_false_iff_eq.mpr c4
      clear c4
      (first | rw [c4b0] | (simp only [i64_w, i32_w]; rw [c4b0]) | skip)
      have H' := Aside0.mk H
      clear H
      have hcz5_0 : w3.cell? ⟨gb221, 0, none⟩ = some (.string a0_0) := (blk_cell BK221.out 0).trans rfl
      have hcz5_1 : w3.cell? ⟨gb221, 1, none⟩ = some (.int .i64 a0_1) := (blk_cell BK221.out 1).trans rfl
      have hcz5_2 : w3.cell? ⟨gb221, 2, none⟩ = some (.int .i64 a0_2) := (blk_cell BK221.out 2).trans rfl
      have hcz5_3 : w3.cell? ⟨gb221, 3, none⟩ = some (.int .i64 a0_3) := (blk_cell BK221.out 3).trans rfl
      have hcz5_4 : w3.cell? ⟨gb221, 4, none⟩ = some (.int .i64 a0_4) := (blk_cell BK221.out 4).trans rfl
      have hcz5_5 : w3.cell? ⟨gb221, 5, none⟩ = some (.int .i64 a0_5) := (blk_cell BK221.out 5).trans rfl
      have hcz5_6 : w3.cell? ⟨gb221, 6, none⟩ = some (.int .i64 a0_6) := (blk_cell BK221.out 6).trans rfl
      have hcz5_7 : w3.cell? ⟨gb221, 7, none⟩ = some (.string a0_7) := (blk_cell BK221.out 7).trans rfl
      have hfz5_0 := blk_frozen BK221.out 0
      have hfz5_1 := blk_frozen BK221.out 1
      have hfz5_2 := blk_frozen BK221.out 2
      have hfz5_3 := blk_frozen BK221.out 3
      have hfz5_4 := blk_frozen BK221.out 4
      have hfz5_5 := blk_frozen BK221.out 5
      have hfz5_6 := blk_frozen BK221.out 6
      have hfz5_7 := blk_frozen BK221.out 7
      go_wp2
      go_meet
      case rel => exact ⟨_, (true), (by first | rfl | (simp; done) | (simp [*]; done)), H', ⟨by first | omega | exact Nat.le_refl _⟩, ⟨by (with_reducible repeat (first | refine blk_drewN ?_ _ | refine blk_drew ?_ | refine blk_alloc ?_ _)); exact BK221.out⟩, ⟨by repeat (first | (with_reducible first | exact HB.out | apply below_alloc | apply pw_below_drewN | apply below_drew1 | refine below_set ?_ GE221.out) | exact HB.out)⟩⟩
    · rw [if_neg c4] at H
      have c4b0 : ((a0_0.size : Int) == 0) = false := beq_eq_false_iff_ne.mpr c4
      have c4b1 : ((a0_0.size : Int) != 0) = true := bne_iff_ne.mpr c4
      (first | rw [c4b0] | (simp only [i64_w, i32_w]; rw [c4b0]) | skip)
      have H' := Aside0.mk H
      clear H
      have hcz6_0 : w3.cell? ⟨gb221, 0, none⟩ = some (.string a0_0) := (blk_cell BK221.out 0).trans rfl
      have hcz6_1 : w3.cell? ⟨gb221, 1, none⟩ = some (.int .i64 a0_1) := (blk_cell BK221.out 1).trans rfl
      have hcz6_2 : w3.cell? ⟨gb221, 2, none⟩ = some (.int .i64 a0_2) := (blk_cell BK221.out 2).trans rfl
      have hcz6_3 : w3.cell? ⟨gb221, 3, none⟩ = some (.int .i64 a0_3) := (blk_cell BK221.out 3).trans rfl
      have hcz6_4 : w3.cell? ⟨gb221, 4, none⟩ = some (.int .i64 a0_4) := (blk_cell BK221.out 4).trans rfl
      have hcz6_5 : w3.cell? ⟨gb221, 5, none⟩ = some (.int .i64 a0_5) := (blk_cell BK221.out 5).trans rfl
      have hcz6_6 : w3.cell? ⟨gb221, 6, none⟩ = some (.int .i64 a0_6) := (blk_cell BK221.out 6).trans rfl
      have hcz6_7 : w3.cell? ⟨gb221, 7, none⟩ = some (.string a0_7) := (blk_cell BK221.out 7).trans rfl
      have hfz6_0 := blk_frozen BK221.out 0
      have hfz6_1 := blk_frozen BK221.out 1
      have hfz6_2 := blk_frozen BK221.out 2
      have hfz6_3 := blk_frozen BK221.out 3
      have hfz6_4 := blk_frozen BK221.out 4
      have hfz6_5 := blk_frozen BK221.out 5
      have hfz6_6 := blk_frozen BK221.out 6
      have hfz6_7 := blk_frozen BK221.out 7
      go_wp2
      go_meet
      case rel => exact ⟨_, ((((a0_7.size : Int) % 2) == 1)), (by first | rfl | (simp; done) | (simp [*]; done)), H', ⟨by first | omega | exact Nat.le_refl _⟩, ⟨by (with_reducible repeat (first | refine blk_drewN ?_ _ | refine blk_drew ?_ | refine blk_alloc ?_ _)); exact BK221.out⟩, ⟨by repeat (first | (with_reducible first | exact HB.out | apply below_alloc | apply pw_below_drewN | apply below_drew1 | refine below_set ?_ GE221.out) | exact HB.out)⟩⟩
  case rest =>
    clear HC2
    try clear c1
    try clear p2
    try clear c4
    try clear c4b0
    try clear c4b1
    try clear hcz5_0
    try clear hcz5_1
    try clear hcz5_2
    try clear hcz5_3
    try clear hcz5_4
    try clear hcz5_5
    try clear hcz5_6
    try clear hcz5_7
    try clear hcz6_0
    try clear hcz6_1
    try clear hcz6_2
    try clear hcz6_3
    try clear hcz6_4
    try clear hcz6_5
    try clear hcz6_6
    try clear hcz6_7
    try clear hfz5_0
    try clear hfz5_1
    try clear hfz5_2
    try clear hfz5_3
    try clear hfz5_4
    try clear hfz5_5
    try clear hfz5_6
    try clear hfz5_7
    try clear hfz6_0
    try clear hfz6_1
    try clear hfz6_2
    try clear hfz6_3
    try clear hfz6_4
    try clear hfz6_5
    try clear hfz6_6
    try clear hfz6_7
    obtain ⟨kq, x18_1, rfl, HA, HJ1, BK221, HB⟩ := hcut
    cases kq with
    | zero => exact absurd HA.out (by simp [masterdiscref20_Encode.j0])
    | succ kj1 =>
      have H := HA.out
      clear HA
      simp only [masterdiscref20_Encode.j0] at H
      by_cases c7 : x18_1 = true
      · subst c7
        have H1 : (some ((⟨#[]⟩ : ByteArray), 1)) = some (r1, r2) := by rw [if_pos rfl] at H; exact H
        clear H
        have H := H1
        clear H1
        simp only [Option.some.injEq, Prod.mk.injEq] at H
        obtain ⟨rfl, rfl⟩ := H
        go_wp2
        go_ret2
        exact ⟨by first | rfl | (simp [errW_none, errW_some] <;> rfl) | (simp [*, errW_none, errW_some] <;> rfl), by repeat (first | (with_reducible first | exact HB.out | apply below_alloc | apply pw_below_drewN | apply below_drew1 | refine below_set ?_ GE221.out) | exact HB.out)⟩
      · replace c7 := Bool.eq_false_iff.mpr c7
        subst c7
        have H1 : ((masterdiscref20_Size.f kj1 (a0_0.size : Int) (a0_7.size : Int)).bind fun t222 => (if t222 = 0 then (some ((⟨#[]⟩ : ByteArray), 7)) else ((masterdiscref16_Record.f kj1 a0_3 a0_4).bind fun bt223 => ((masterdiscref20_fits.f a0_1 4294967295).bind fun t225 => (if t225 = true then ((masterdiscref20_fits.f a0_2 4294967295).bind fun t226 => (if t226 = true then ((masterdiscref20_fits.f a0_5 255).bind fun t227 => (if t227 = true then ((masterdiscref20_fits.f a0_6 65535).bind fun t228 => (if t228 = true then (masterdiscref20_Encode.j1 kj1 t222 bt223.1 (bt223.2 != 0) a0_0 a0_1 a0_2 a0_3 a0_4 a0_5 a0_6 a0_7) else (masterdiscref20_Encode.j1 kj1 t222 bt223.1 true a0_0 a0_1 a0_2 a0_3 a0_4 a0_5 a0_6 a0_7))) else (masterdiscref20_Encode.j1 kj1 t222 bt223.1 true a0_0 a0_1 a0_2 a0_3 a0_4 a0_5 a0_6 a0_7))) else (masterdiscref20_Encode.j1 kj1 t222 bt223.1 true a0_0 a0_1 a0_2 a0_3 a0_4 a0_5 a0_6 a0_7))) else (masterdiscref20_Encode.j1 kj1 t222 bt223.1 true a0_0 a0_1 a0_2 a0_3 a0_4 a0_5 a0_6 a0_7)))))) = some (r1, r2) := by rw [if_neg (show ¬ (false = true) by decide)] at H; exact H
        clear H
        have H := H1
        clear H1
        replace H := Option.bind_eq_some_iff.mp H
        obtain ⟨t222, A80, H⟩ := H
        replace H : (if t222 = 0 then (some ((⟨#[]⟩ : ByteArray), 7)) else ((masterdiscref16_Record.f kj1 a0_3 a0_4).bind fun bt223 => ((masterdiscref20_fits.f a0_1 4294967295).bind fun t225 => (if t225 = true then ((masterdiscref20_fits.f a0_2 4294967295).bind fun t226 => (if t226 = true then ((masterdiscref20_fits.f a0_5 255).bind fun t227 => (if t227 = true then ((masterdiscref20_fits.f a0_6 65535).bind fun t228 => (if t228 = true then (masterdiscref20_Encode.j1 kj1 t222 bt223.1 (bt223.2 != 0) a0_0 a0_1 a0_2 a0_3 a0_4 a0_5 a0_6 a0_7) else (masterdiscref20_Encode.j1 kj1 t222 bt223.1 true a0_0 a0_1 a0_2 a0_3 a0_4 a0_5 a0_6 a0_7))) else (masterdiscref20_Encode.j1 kj1 t222 bt223.1 true a0_0 a0_1 a0_2 a0_3 a0_4 a0_5 a0_6 a0_7))) else (masterdiscref20_Encode.j1 kj1 t222 bt223.1 true a0_0 a0_1 a0_2 a0_3 a0_4 a0_5 a0_6 a0_7))) else (masterdiscref20_Encode.j1 kj1 t222 bt223.1 true a0_0 a0_1 a0_2 a0_3 a0_4 a0_5 a0_6 a0_7))))) = some (r1, r2) := H
        have A8 := Aside0.mk A80
        clear A80
        by_cases c9 : t222 = 0
        · rw [if_pos c9] at H
          have c9b0 : (t222 == 0) = true := beq_iff_eq.mpr c9
          have c9b1 : (t222 != 0) = false := bne_eq_false_iff_eq.mpr c9
          clear c9
          simp only [Option.some.injEq, Prod.mk.injEq] at H
          obtain ⟨rfl, rfl⟩ := H
          have hcz10_0 : wc.cell? ⟨gb221, 0, none⟩ = some (.string a0_0) := (blk_cell BK221.out 0).trans rfl
          have hcz10_1 : wc.cell? ⟨gb221, 1, none⟩ = some (.int .i64 a0_1) := (blk_cell BK221.out 1).trans rfl
          have hcz10_2 : wc.cell? ⟨gb221, 2, none⟩ = some (.int .i64 a0_2) := (blk_cell BK221.out 2).trans rfl
          have hcz10_3 : wc.cell? ⟨gb221, 3, none⟩ = some (.int .i64 a0_3) := (blk_cell BK221.out 3).trans rfl
          have hcz10_4 : wc.cell? ⟨gb221, 4, none⟩ = some (.int .i64 a0_4) := (blk_cell BK221.out 4).trans rfl
          have hcz10_5 : wc.cell? ⟨gb221, 5, none⟩ = some (.int .i64 a0_5) := (blk_cell BK221.out 5).trans rfl
          have hcz10_6 : wc.cell? ⟨gb221, 6, none⟩ = some (.int .i64 a0_6) := (blk_cell BK221.out 6).trans rfl
          have hcz10_7 : wc.cell? ⟨gb221, 7, none⟩ = some (.string a0_7) := (blk_cell BK221.out 7).trans rfl
          have hfz10_0 := blk_frozen BK221.out 0
          have hfz10_1 := blk_frozen BK221.out 1
          have hfz10_2 := blk_frozen BK221.out 2
          have hfz10_3 := blk_frozen BK221.out 3
          have hfz10_4 := blk_frozen BK221.out 4
          have hfz10_5 := blk_frozen BK221.out 5
          have hfz10_6 := blk_frozen BK221.out 6
          have hfz10_7 := blk_frozen BK221.out 7
          go_wp2_with (first | ((with_reducible refine gate_callee (f := 14) rfl ?_); refine goesL_ (some 25) rfl rfl Try.func14 (by kernel_rfl) rfl #[.int .i64 (a0_0.size : Int), .int .i64 (a0_7.size : Int)] rfl (by (try simp only [List.map_toArray, List.map_cons, List.map_nil]); first | done | rfl | (simp only [List.length_drop, List.length_take]; rfl)) ?_; (with_reducible refine (masterdiscref20_Size.calls kj1 (a0_0.size : Int) (a0_7.size : Int) t222 _ A8.out).mono ?_); rintro e w' ⟨rfl, ⟨nd, rfl⟩⟩; refine ⟨_, rfl, ?_⟩))
          go_ret2
          exact ⟨by first | rfl | (simp [errW_none, errW_some] <;> rfl) | (simp [*, errW_none, errW_some] <;> rfl), by repeat (first | (with_reducible first | exact HB.out | apply below_alloc | apply pw_below_drewN | apply below_drew1 | refine below_set ?_ GE221.out) | exact HB.out)⟩
        · rw [if_neg c9] at H
          have c9b0 : (t222 == 0) = false := beq_eq_false_iff_ne.mpr c9
          have c9b1 : (t222 != 0) = true := bne_iff_ne.mpr c9
          replace H := Option.bind_eq_some_iff.mp H
          obtain ⟨⟨t223, t224⟩, A110, H⟩ := H
          replace H : ((masterdiscref20_fits.f a0_1 4294967295).bind fun t225 => (if t225 = true then ((masterdiscref20_fits.f a0_2 4294967295).bind fun t226 => (if t226 = true then ((masterdiscref20_fits.f a0_5 255).bind fun t227 => (if t227 = true then ((masterdiscref20_fits.f a0_6 65535).bind fun t228 => (if t228 = true then (masterdiscref20_Encode.j1 kj1 t222 t223 (t224 != 0) a0_0 a0_1 a0_2 a0_3 a0_4 a0_5 a0_6 a0_7) else (masterdiscref20_Encode.j1 kj1 t222 t223 true a0_0 a0_1 a0_2 a0_3 a0_4 a0_5 a0_6 a0_7))) else (masterdiscref20_Encode.j1 kj1 t222 t223 true a0_0 a0_1 a0_2 a0_3 a0_4 a0_5 a0_6 a0_7))) else (masterdiscref20_Encode.j1 kj1 t222 t223 true a0_0 a0_1 a0_2 a0_3 a0_4 a0_5 a0_6 a0_7))) else (masterdiscref20_Encode.j1 kj1 t222 t223 true a0_0 a0_1 a0_2 a0_3 a0_4 a0_5 a0_6 a0_7))) = some (r1, r2) := H
          have A11 := Aside0.mk A110
          clear A110
          have HC12 := Aside0.mk H
          clear H
          have hcz13_0 : wc.cell? ⟨gb221, 0, none⟩ = some (.string a0_0) := (blk_cell BK221.out 0).trans rfl
          have hcz13_1 : wc.cell? ⟨gb221, 1, none⟩ = some (.int .i64 a0_1) := (blk_cell BK221.out 1).trans rfl
          have hcz13_2 : wc.cell? ⟨gb221, 2, none⟩ = some (.int .i64 a0_2) := (blk_cell BK221.out 2).trans rfl
          have hcz13_3 : wc.cell? ⟨gb221, 3, none⟩ = some (.int .i64 a0_3) := (blk_cell BK221.out 3).trans rfl
          have hcz13_4 : wc.cell? ⟨gb221, 4, none⟩ = some (.int .i64 a0_4) := (blk_cell BK221.out 4).trans rfl
          have hcz13_5 : wc.cell? ⟨gb221, 5, none⟩ = some (.int .i64 a0_5) := (blk_cell BK221.out 5).trans rfl
          have hcz13_6 : wc.cell? ⟨gb221, 6, none⟩ = some (.int .i64 a0_6) := (blk_cell BK221.out 6).trans rfl
          have hcz13_7 : wc.cell? ⟨gb221, 7, none⟩ = some (.string a0_7) := (blk_cell BK221.out 7).trans rfl
          have hfz13_0 := blk_frozen BK221.out 0
          have hfz13_1 := blk_frozen BK221.out 1
          have hfz13_2 := blk_frozen BK221.out 2
          have hfz13_3 := blk_frozen BK221.out 3
          have hfz13_4 := blk_frozen BK221.out 4
          have hfz13_5 := blk_frozen BK221.out 5
          have hfz13_6 := blk_frozen BK221.out 6
          have hfz13_7 := blk_frozen BK221.out 7
          go_upto_region 7 with (first | ((with_reducible refine gate_callee (f := 14) rfl ?_); refine goesL_ (some 25) rfl rfl Try.func14 (by kernel_rfl) rfl #[.int .i64 (a0_0.size : Int), .int .i64 (a0_7.size : Int)] rfl (by (try simp only [List.map_toArray, List.map_cons, List.map_nil]); first | done | rfl | (simp only [List.length_drop, List.length_take]; rfl)) ?_; (with_reducible refine (masterdiscref20_Size.calls kj1 (a0_0.size : Int) (a0_7.size : Int) t222 _ A8.out).mono ?_); rintro e w' ⟨rfl, ⟨nd, rfl⟩⟩; refine ⟨_, rfl, ?_⟩) | ((with_reducible refine gate_callee (f := 28) rfl ?_); refine goesL_ (some 33) rfl rfl Try.func28 (by kernel_rfl) rfl #[.int .i64 a0_3, .int .i64 a0_4] rfl (by (try simp only [List.map_toArray, List.map_cons, List.map_nil]); first | done | rfl | (simp only [List.length_drop, List.length_take]; rfl)) ?_; (with_reducible refine (masterdiscref16_Record.calls kj1 a0_3 a0_4 t223 t224 _ A11.out).mono ?_); rintro e w14 ⟨rfl, hb⟩; refine ⟨_, rfl, ?_⟩; have n0_ := Aside0.mk (blk_below (g := gb221) (o := .cells #[.string a0_0, .int .i64 a0_1, .int .i64 a0_2, .int .i64 a0_3, .int .i64 a0_4, .int .i64 a0_5, .int .i64 a0_6, .string a0_7] 23 (0, 0)) (by (with_reducible repeat (first | refine blk_drewN ?_ _ | refine blk_drew ?_ | refine blk_alloc ?_ _)); exact BK221.out) hb); have n1_ := Aside0.mk (below_step (by repeat (first | (with_reducible first | exact HB.out | apply below_alloc | apply pw_below_drewN | apply below_drew1 | refine below_set ?_ GE221.out) | exact HB.out)) hb); clear BK221; clear HB; have BK221 := n0_; have HB := n1_; clear n0_ n1_; (try clear hb); (try clear hb2); (try clear hk); (try clear hi)))
          (try simp only [Act.put, List.setIfInBounds_toArray, List.set_cons_zero, List.set_cons_succ])
          go_cut [61] (fun v61 wc => ∃ (kq : Nat) (x61_11 : Bool), v61 = .bool x61_11 ∧ Aside0 (masterdiscref20_Encode.j1 kq t222 t223 x61_11 a0_0 a0_1 a0_2 a0_3 a0_4 a0_5 a0_6 a0_7 = some (r1, r2)) ∧ Aside0 (kq ≤ kj1) ∧ Aside0 (wc.heap[gb221]? = some (.cells #[.string a0_0, .int .i64 a0_1, .int .i64 a0_2, .int .i64 a0_3, .int .i64 a0_4, .int .i64 a0_5, .int .i64 a0_6, .string a0_7] 23 (0, 0))) ∧ Aside0 (Below w.heap.size w wc))
          case first =>
            have H := HC12.out
            clear HC12
            replace H := Option.bind_eq_some_iff.mp H
            obtain ⟨t225, A150, H⟩ := H
            replace H : (if t225 = true then ((masterdiscref20_fits.f a0_2 4294967295).bind fun t226 => (if t226 = true then ((masterdiscref20_fits.f a0_5 255).bind fun t227 => (if t227 = true then ((masterdiscref20_fits.f a0_6 65535).bind fun t228 => (if t228 = true then (masterdiscref20_Encode.j1 kj1 t222 t223 (t224 != 0) a0_0 a0_1 a0_2 a0_3 a0_4 a0_5 a0_6 a0_7) else (masterdiscref20_Encode.j1 kj1 t222 t223 true a0_0 a0_1 a0_2 a0_3 a0_4 a0_5 a0_6 a0_7))) else (masterdiscref20_Encode.j1 kj1 t222 t223 true a0_0 a0_1 a0_2 a0_3 a0_4 a0_5 a0_6 a0_7))) else (masterdiscref20_Encode.j1 kj1 t222 t223 true a0_0 a0_1 a0_2 a0_3 a0_4 a0_5 a0_6 a0_7))) else (masterdiscref20_Encode.j1 kj1 t222 t223 true a0_0 a0_1 a0_2 a0_3 a0_4 a0_5 a0_6 a0_7)) = some (r1, r2) := H
            have A15 := Aside0.mk A150
            clear A150
            by_cases c16 : t225 = true
            · subst c16
              have H1 : ((masterdiscref20_fits.f a0_2 4294967295).bind fun t226 => (if t226 = true then ((masterdiscref20_fits.f a0_5 255).bind fun t227 => (if t227 = true then ((masterdiscref20_fits.f a0_6 65535).bind fun t228 => (if t228 = true then (masterdiscref20_Encode.j1 kj1 t222 t223 (t224 != 0) a0_0 a0_1 a0_2 a0_3 a0_4 a0_5 a0_6 a0_7) else (masterdiscref20_Encode.j1 kj1 t222 t223 true a0_0 a0_1 a0_2 a0_3 a0_4 a0_5 a0_6 a0_7))) else (masterdiscref20_Encode.j1 kj1 t222 t223 true a0_0 a0_1 a0_2 a0_3 a0_4 a0_5 a0_6 a0_7))) else (masterdiscref20_Encode.j1 kj1 t222 t223 true a0_0 a0_1 a0_2 a0_3 a0_4 a0_5 a0_6 a0_7))) = some (r1, r2) := by rw [if_pos rfl] at H; exact H
              clear H
              have H := H1
              clear H1
              replace H := Option.bind_eq_some_iff.mp H
              obtain ⟨t226, A170, H⟩ := H
              replace H : (if t226 = true then ((masterdiscref20_fits.f a0_5 255).bind fun t227 => (if t227 = true then ((masterdiscref20_fits.f a0_6 65535).bind fun t228 => (if t228 = true then (masterdiscref20_Encode.j1 kj1 t222 t223 (t224 != 0) a0_0 a0_1 a0_2 a0_3 a0_4 a0_5 a0_6 a0_7) else (masterdiscref20_Encode.j1 kj1 t222 t223 true a0_0 a0_1 a0_2 a0_3 a0_4 a0_5 a0_6 a0_7))) else (masterdiscref20_Encode.j1 kj1 t222 t223 true a0_0 a0_1 a0_2 a0_3 a0_4 a0_5 a0_6 a0_7))) else (masterdiscref20_Encode.j1 kj1 t222 t223 true a0_0 a0_1 a0_2 a0_3 a0_4 a0_5 a0_6 a0_7)) = some (r1, r2) := H
              have A17 := Aside0.mk A170
              clear A170
              by_cases c18 : t226 = true
              · subst c18
                have H1 : ((masterdiscref20_fits.f a0_5 255).bind fun t227 => (if t227 = true then ((masterdiscref20_fits.f a0_6 65535).bind fun t228 => (if t228 = true then (masterdiscref20_Encode.j1 kj1 t222 t223 (t224 != 0) a0_0 a0_1 a0_2 a0_3 a0_4 a0_5 a0_6 a0_7) else (masterdiscref20_Encode.j1 kj1 t222 t223 true a0_0 a0_1 a0_2 a0_3 a0_4 a0_5 a0_6 a0_7))) else (masterdiscref20_Encode.j1 kj1 t222 t223 true a0_0 a0_1 a0_2 a0_3 a0_4 a0_5 a0_6 a0_7))) = some (r1, r2) := by rw [if_pos rfl] at H; exact H
                clear H
                have H := H1
                clear H1
                replace H := Option.bind_eq_some_iff.mp H
                obtain ⟨t227, A190, H⟩ := H
                replace H : (if t227 = true then ((masterdiscref20_fits.f a0_6 65535).bind fun t228 => (if t228 = true then (masterdiscref20_Encode.j1 kj1 t222 t223 (t224 != 0) a0_0 a0_1 a0_2 a0_3 a0_4 a0_5 a0_6 a0_7) else (masterdiscref20_Encode.j1 kj1 t222 t223 true a0_0 a0_1 a0_2 a0_3 a0_4 a0_5 a0_6 a0_7))) else (masterdiscref20_Encode.j1 kj1 t222 t223 true a0_0 a0_1 a0_2 a0_3 a0_4 a0_5 a0_6 a0_7)) = some (r1, r2) := H
                have A19 := Aside0.mk A190
                clear A190
                by_cases c20 : t227 = true
                · subst c20
                  have H1 : ((masterdiscref20_fits.f a0_6 65535).bind fun t228 => (if t228 = true then (masterdiscref20_Encode.j1 kj1 t222 t223 (t224 != 0) a0_0 a0_1 a0_2 a0_3 a0_4 a0_5 a0_6 a0_7) else (masterdiscref20_Encode.j1 kj1 t222 t223 true a0_0 a0_1 a0_2 a0_3 a0_4 a0_5 a0_6 a0_7))) = some (r1, r2) := by rw [if_pos rfl] at H; exact H
                  clear H
                  have H := H1
                  clear H1
                  replace H := Option.bind_eq_some_iff.mp H
                  obtain ⟨t228, A210, H⟩ := H
                  replace H : (if t228 = true then (masterdiscref20_Encode.j1 kj1 t222 t223 (t224 != 0) a0_0 a0_1 a0_2 a0_3 a0_4 a0_5 a0_6 a0_7) else (masterdiscref20_Encode.j1 kj1 t222 t223 true a0_0 a0_1 a0_2 a0_3 a0_4 a0_5 a0_6 a0_7)) = some (r1, r2) := H
                  have A21 := Aside0.mk A210
                  clear A210
                  by_cases c22 : t228 = true
                  · subst c22
                    have H1 : (masterdiscref20_Encode.j1 kj1 t222 t223 (t224 != 0) a0_0 a0_1 a0_2 a0_3 a0_4 a0_5 a0_6 a0_7) = some (r1, r2) := by rw [if_pos rfl] at H; exact H
                    clear H
                    have H := H1
                    clear H1
                    have H' := Aside0.mk H
                    clear H
                    have hcz23_0 : w14.cell? ⟨gb221, 0, none⟩ = some (.string a0_0) := (blk_cell BK221.out 0).trans rfl
                    have hcz23_1 : w14.cell? ⟨gb221, 1, none⟩ = some (.int .i64 a0_1) := (blk_cell BK221.out 1).trans rfl
                    have hcz23_2 : w14.cell? ⟨gb221, 2, none⟩ = some (.int .i64 a0_2) := (blk_cell BK221.out 2).trans rfl
                    have hcz23_3 : w14.cell? ⟨gb221, 3, none⟩ = some (.int .i64 a0_3) := (blk_cell BK221.out 3).trans rfl
                    have hcz23_4 : w14.cell? ⟨gb221, 4, none⟩ = some (.int .i64 a0_4) := (blk_cell BK221.out 4).trans rfl
                    have hcz23_5 : w14.cell? ⟨gb221, 5, none⟩ = some (.int .i64 a0_5) := (blk_cell BK221.out 5).trans rfl
                    have hcz23_6 : w14.cell? ⟨gb221, 6, none⟩ = some (.int .i64 a0_6) := (blk_cell BK221.out 6).trans rfl
                    have hcz23_7 : w14.cell? ⟨gb221, 7, none⟩ = some (.string a0_7) := (blk_cell BK221.out 7).trans rfl
                    have hfz23_0 := blk_frozen BK221.out 0
                    have hfz23_1 := blk_frozen BK221.out 1
                    have hfz23_2 := blk_frozen BK221.out 2
                    have hfz23_3 := blk_frozen BK221.out 3
                    have hfz23_4 := blk_frozen BK221.out 4
                    have hfz23_5 := blk_frozen BK221.out 5
                    have hfz23_6 := blk_frozen BK221.out 6
                    have hfz23_7 := blk_frozen BK221.out 7
                    go_wp2_with (first | ((with_reducible refine gate_callee (f := 29) rfl ?_); refine goesL_ (some 38) rfl rfl Try.func29 (by kernel_rfl) rfl #[.int .i64 a0_1, .int .i64 4294967295] rfl (by (try simp only [List.map_toArray, List.map_cons, List.map_nil]); first | done | rfl | (simp only [List.length_drop, List.length_take]; rfl)) ?_; (with_reducible refine (masterdiscref20_fits.calls a0_1 4294967295 true _ A15.out).mono ?_); rintro e w' ⟨rfl, ⟨nd, rfl⟩⟩; refine ⟨_, rfl, ?_⟩) | (go_at_call 29; (with_reducible refine (masterdiscref20_fits.calls a0_2 4294967295 true _ A17.out).mono ?_); rintro e w' ⟨rfl, ⟨nd, rfl⟩⟩) | (go_at_call 29; (with_reducible refine (masterdiscref20_fits.calls a0_5 255 true _ A19.out).mono ?_); rintro e w' ⟨rfl, ⟨nd, rfl⟩⟩) | (go_at_call 29; (with_reducible refine (masterdiscref20_fits.calls a0_6 65535 true _ A21.out).mono ?_); rintro e w' ⟨rfl, ⟨nd, rfl⟩⟩))
                    go_meet
                    case rel => exact ⟨_, ((t224 != 0)), (by first | rfl | (simp; done) | (simp [*]; done)), H', ⟨by have := HJ1.out; first | omega | exact Nat.le_refl _⟩, ⟨by (with_reducible repeat (first | refine blk_drewN ?_ _ | refine blk_drew ?_ | refine blk_alloc ?_ _)); exact BK221.out⟩, ⟨by repeat (first | (with_reducible first | exact HB.out | apply below_alloc | apply pw_below_drewN | apply below_drew1 | refine below_set ?_ GE221.out) | exact HB.out)⟩⟩
                  · replace c22 := Bool.eq_false_iff.mpr c22
                    subst c22
                    have H1 : (masterdiscref20_Encode.j1 kj1 t222 t223 true a0_0 a0_1 a0_2 a0_3 a0_4 a0_5 a0_6 a0_7) = some (r1, r2) := by rw [if_neg (show ¬ (false = true) by decide)] at H; exact H
                    clear H
                    have H := H1
                    clear H1
                    have H' := Aside0.mk H
                    clear H
                    have hcz24_0 : w14.cell? ⟨gb221, 0, none⟩ = some (.string a0_0) := (blk_cell BK221.out 0).trans rfl
                    have hcz24_1 : w14.cell? ⟨gb221, 1, none⟩ = some (.int .i64 a0_1) := (blk_cell BK221.out 1).trans rfl
                    have hcz24_2 : w14.cell? ⟨gb221, 2, none⟩ = some (.int .i64 a0_2) := (blk_cell BK221.out 2).trans rfl
                    have hcz24_3 : w14.cell? ⟨gb221, 3, none⟩ = some (.int .i64 a0_3) := (blk_cell BK221.out 3).trans rfl
                    have hcz24_4 : w14.cell? ⟨gb221, 4, none⟩ = some (.int .i64 a0_4) := (blk_cell BK221.out 4).trans rfl
                    have hcz24_5 : w14.cell? ⟨gb221, 5, none⟩ = some (.int .i64 a0_5) := (blk_cell BK221.out 5).trans rfl
                    have hcz24_6 : w14.cell? ⟨gb221, 6, none⟩ = some (.int .i64 a0_6) := (blk_cell BK221.out 6).trans rfl
                    have hcz24_7 : w14.cell? ⟨gb221, 7, none⟩ = some (.string a0_7) := (blk_cell BK221.out 7).trans rfl
                    have hfz24_0 := blk_frozen BK221.out 0
                    have hfz24_1 := blk_frozen BK221.out 1
                    have hfz24_2 := blk_frozen BK221.out 2
                    have hfz24_3 := blk_frozen BK221.out 3
                    have hfz24_4 := blk_frozen BK221.out 4
                    have hfz24_5 := blk_frozen BK221.out 5
                    have hfz24_6 := blk_frozen BK221.out 6
                    have hfz24_7 := blk_frozen BK221.out 7
                    go_wp2_with (first | ((with_reducible refine gate_callee (f := 29) rfl ?_); refine goesL_ (some 38) rfl rfl Try.func29 (by kernel_rfl) rfl #[.int .i64 a0_1, .int .i64 4294967295] rfl (by (try simp only [List.map_toArray, List.map_cons, List.map_nil]); first | done | rfl | (simp only [List.length_drop, List.length_take]; rfl)) ?_; (with_reducible refine (masterdiscref20_fits.calls a0_1 4294967295 true _ A15.out).mono ?_); rintro e w' ⟨rfl, ⟨nd, rfl⟩⟩; refine ⟨_, rfl, ?_⟩) | (go_at_call 29; (with_reducible refine (masterdiscref20_fits.calls a0_2 4294967295 true _ A17.out).mono ?_); rintro e w' ⟨rfl, ⟨nd, rfl⟩⟩) | (go_at_call 29; (with_reducible refine (masterdiscref20_fits.calls a0_5 255 true _ A19.out).mono ?_); rintro e w' ⟨rfl, ⟨nd, rfl⟩⟩) | (go_at_call 29; (with_reducible refine (masterdiscref20_fits.calls a0_6 65535 false _ A21.out).mono ?_); rintro e w' ⟨rfl, ⟨nd, rfl⟩⟩))
                    go_meet
                    case rel => exact ⟨_, (true), (by first | rfl | (simp; done) | (simp [*]; done)), H', ⟨by have := HJ1.out; first | omega | exact Nat.le_refl _⟩, ⟨by (with_reducible repeat (first | refine blk_drewN ?_ _ | refine blk_drew ?_ | refine blk_alloc ?_ _)); exact BK221.out⟩, ⟨by repeat (first | (with_reducible first | exact HB.out | apply below_alloc | apply pw_below_drewN | apply below_drew1 | refine below_set ?_ GE221.out) | exact HB.out)⟩⟩
                · replace c20 := Bool.eq_false_iff.mpr c20
                  subst c20
                  have H1 : (masterdiscref20_Encode.j1 kj1 t222 t223 true a0_0 a0_1 a0_2 a0_3 a0_4 a0_5 a0_6 a0_7) = some (r1, r2) := by rw [if_neg (show ¬ (false = true) by decide)] at H; exact H
                  clear H
                  have H := H1
                  clear H1
                  have H' := Aside0.mk H
                  clear H
                  have hcz25_0 : w14.cell? ⟨gb221, 0, none⟩ = some (.string a0_0) := (blk_cell BK221.out 0).trans rfl
                  have hcz25_1 : w14.cell? ⟨gb221, 1, none⟩ = some (.int .i64 a0_1) := (blk_cell BK221.out 1).trans rfl
                  have hcz25_2 : w14.cell? ⟨gb221, 2, none⟩ = some (.int .i64 a0_2) := (blk_cell BK221.out 2).trans rfl
                  have hcz25_3 : w14.cell? ⟨gb221, 3, none⟩ = some (.int .i64 a0_3) := (blk_cell BK221.out 3).trans rfl
                  have hcz25_4 : w14.cell? ⟨gb221, 4, none⟩ = some (.int .i64 a0_4) := (blk_cell BK221.out 4).trans rfl
                  have hcz25_5 : w14.cell? ⟨gb221, 5, none⟩ = some (.int .i64 a0_5) := (blk_cell BK221.out 5).trans rfl
                  have hcz25_6 : w14.cell? ⟨gb221, 6, none⟩ = some (.int .i64 a0_6) := (blk_cell BK221.out 6).trans rfl
                  have hcz25_7 : w14.cell? ⟨gb221, 7, none⟩ = some (.string a0_7) := (blk_cell BK221.out 7).trans rfl
                  have hfz25_0 := blk_frozen BK221.out 0
                  have hfz25_1 := blk_frozen BK221.out 1
                  have hfz25_2 := blk_frozen BK221.out 2
                  have hfz25_3 := blk_frozen BK221.out 3
                  have hfz25_4 := blk_frozen BK221.out 4
                  have hfz25_5 := blk_frozen BK221.out 5
                  have hfz25_6 := blk_frozen BK221.out 6
                  have hfz25_7 := blk_frozen BK221.out 7
                  go_wp2_with (first | ((with_reducible refine gate_callee (f := 29) rfl ?_); refine goesL_ (some 38) rfl rfl Try.func29 (by kernel_rfl) rfl #[.int .i64 a0_1, .int .i64 4294967295] rfl (by (try simp only [List.map_toArray, List.map_cons, List.map_nil]); first | done | rfl | (simp only [List.length_drop, List.length_take]; rfl)) ?_; (with_reducible refine (masterdiscref20_fits.calls a0_1 4294967295 true _ A15.out).mono ?_); rintro e w' ⟨rfl, ⟨nd, rfl⟩⟩; refine ⟨_, rfl, ?_⟩) | (go_at_call 29; (with_reducible refine (masterdiscref20_fits.calls a0_2 4294967295 true _ A17.out).mono ?_); rintro e w' ⟨rfl, ⟨nd, rfl⟩⟩) | (go_at_call 29; (with_reducible refine (masterdiscref20_fits.calls a0_5 255 false _ A19.out).mono ?_); rintro e w' ⟨rfl, ⟨nd, rfl⟩⟩))
                  go_meet
                  case rel => exact ⟨_, (true), (by first | rfl | (simp; done) | (simp [*]; done)), H', ⟨by have := HJ1.out; first | omega | exact Nat.le_refl _⟩, ⟨by (with_reducible repeat (first | refine blk_drewN ?_ _ | refine blk_drew ?_ | refine blk_alloc ?_ _)); exact BK221.out⟩, ⟨by repeat (first | (with_reducible first | exact HB.out | apply below_alloc | apply pw_below_drewN | apply below_drew1 | refine below_set ?_ GE221.out) | exact HB.out)⟩⟩
              · replace c18 := Bool.eq_false_iff.mpr c18
                subst c18
                have H1 : (masterdiscref20_Encode.j1 kj1 t222 t223 true a0_0 a0_1 a0_2 a0_3 a0_4 a0_5 a0_6 a0_7) = some (r1, r2) := by rw [if_neg (show ¬ (false = true) by decide)] at H; exact H
                clear H
                have H := H1
                clear H1
                have H' := Aside0.mk H
                clear H
                have hcz26_0 : w14.cell? ⟨gb221, 0, none⟩ = some (.string a0_0) := (blk_cell BK221.out 0).trans rfl
                have hcz26_1 : w14.cell? ⟨gb221, 1, none⟩ = some (.int .i64 a0_1) := (blk_cell BK221.out 1).trans rfl
                have hcz26_2 : w14.cell? ⟨gb221, 2, none⟩ = some (.int .i64 a0_2) := (blk_cell BK221.out 2).trans rfl
                have hcz26_3 : w14.cell? ⟨gb221, 3, none⟩ = some (.int .i64 a0_3) := (blk_cell BK221.out 3).trans rfl
                have hcz26_4 : w14.cell? ⟨gb221, 4, none⟩ = some (.int .i64 a0_4) := (blk_cell BK221.out 4).trans rfl
                have hcz26_5 : w14.cell? ⟨gb221, 5, none⟩ = some (.int .i64 a0_5) := (blk_cell BK221.out 5).trans rfl
                have hcz26_6 : w14.cell? ⟨gb221, 6, none⟩ = some (.int .i64 a0_6) := (blk_cell BK221.out 6).trans rfl
                have hcz26_7 : w14.cell? ⟨gb221, 7, none⟩ = some (.string a0_7) := (blk_cell BK221.out 7).trans rfl
                have hfz26_0 := blk_frozen BK221.out 0
                have hfz26_1 := blk_frozen BK221.out 1
                have hfz26_2 := blk_frozen BK221.out 2
                have hfz26_3 := blk_frozen BK221.out 3
                have hfz26_4 := blk_frozen BK221.out 4
                have hfz26_5 := blk_frozen BK221.out 5
                have hfz26_6 := blk_frozen BK221.out 6
                have hfz26_7 := blk_frozen BK221.out 7
                go_wp2_with (first | ((with_reducible refine gate_callee (f := 29) rfl ?_); refine goesL_ (some 38) rfl rfl Try.func29 (by kernel_rfl) rfl #[.int .i64 a0_1, .int .i64 4294967295] rfl (by (try simp only [List.map_toArray, List.map_cons, List.map_nil]); first | done | rfl | (simp only [List.length_drop, List.length_take]; rfl)) ?_; (with_reducible refine (masterdiscref20_fits.calls a0_1 4294967295 true _ A15.out).mono ?_); rintro e w' ⟨rfl, ⟨nd, rfl⟩⟩; refine ⟨_, rfl, ?_⟩) | (go_at_call 29; (with_reducible refine (masterdiscref20_fits.calls a0_2 4294967295 false _ A17.out).mono ?_); rintro e w' ⟨rfl, ⟨nd, rfl⟩⟩))
                go_meet
                case rel => exact ⟨_, (true), (by first | rfl | (simp; done) | (simp [*]; done)), H', ⟨by have := HJ1.out; first | omega | exact Nat.le_refl _⟩, ⟨by (with_reducible repeat (first | refine blk_drewN ?_ _ | refine blk_drew ?_ | refine blk_alloc ?_ _)); exact BK221.out⟩, ⟨by repeat (first | (with_reducible first | exact HB.out | apply below_alloc | apply pw_below_drewN | apply below_drew1 | refine below_set ?_ GE221.out) | exact HB.out)⟩⟩
            · replace c16 := Bool.eq_false_iff.mpr c16
              subst c16
              have H1 : (masterdiscref20_Encode.j1 kj1 t222 t223 true a0_0 a0_1 a0_2 a0_3 a0_4 a0_5 a0_6 a0_7) = some (r1, r2) := by rw [if_neg (show ¬ (false = true) by decide)] at H; exact H
              clear H
              have H := H1
              clear H1
              have H' := Aside0.mk H
              clear H
              have hcz27_0 : w14.cell? ⟨gb221, 0, none⟩ = some (.string a0_0) := (blk_cell BK221.out 0).trans rfl
              have hcz27_1 : w14.cell? ⟨gb221, 1, none⟩ = some (.int .i64 a0_1) := (blk_cell BK221.out 1).trans rfl
              have hcz27_2 : w14.cell? ⟨gb221, 2, none⟩ = some (.int .i64 a0_2) := (blk_cell BK221.out 2).trans rfl
              have hcz27_3 : w14.cell? ⟨gb221, 3, none⟩ = some (.int .i64 a0_3) := (blk_cell BK221.out 3).trans rfl
              have hcz27_4 : w14.cell? ⟨gb221, 4, none⟩ = some (.int .i64 a0_4) := (blk_cell BK221.out 4).trans rfl
              have hcz27_5 : w14.cell? ⟨gb221, 5, none⟩ = some (.int .i64 a0_5) := (blk_cell BK221.out 5).trans rfl
              have hcz27_6 : w14.cell? ⟨gb221, 6, none⟩ = some (.int .i64 a0_6) := (blk_cell BK221.out 6).trans rfl
              have hcz27_7 : w14.cell? ⟨gb221, 7, none⟩ = some (.string a0_7) := (blk_cell BK221.out 7).trans rfl
              have hfz27_0 := blk_frozen BK221.out 0
              have hfz27_1 := blk_frozen BK221.out 1
              have hfz27_2 := blk_frozen BK221.out 2
              have hfz27_3 := blk_frozen BK221.out 3
              have hfz27_4 := blk_frozen BK221.out 4
              have hfz27_5 := blk_frozen BK221.out 5
              have hfz27_6 := blk_frozen BK221.out 6
              have hfz27_7 := blk_frozen BK221.out 7
              go_wp2_with (first | ((with_reducible refine gate_callee (f := 29) rfl ?_); refine goesL_ (some 38) rfl rfl Try.func29 (by kernel_rfl) rfl #[.int .i64 a0_1, .int .i64 4294967295] rfl (by (try simp only [List.map_toArray, List.map_cons, List.map_nil]); first | done | rfl | (simp only [List.length_drop, List.length_take]; rfl)) ?_; (with_reducible refine (masterdiscref20_fits.calls a0_1 4294967295 false _ A15.out).mono ?_); rintro e w' ⟨rfl, ⟨nd, rfl⟩⟩; refine ⟨_, rfl, ?_⟩))
              go_meet
              case rel => exact ⟨_, (true), (by first | rfl | (simp; done) | (simp [*]; done)), H', ⟨by have := HJ1.out; first | omega | exact Nat.le_refl _⟩, ⟨by (with_reducible repeat (first | refine blk_drewN ?_ _ | refine blk_drew ?_ | refine blk_alloc ?_ _)); exact BK221.out⟩, ⟨by repeat (first | (with_reducible first | exact HB.out | apply below_alloc | apply pw_below_drewN | apply below_drew1 | refine below_set ?_ GE221.out) | exact HB.out)⟩⟩
          case rest =>
            clear HC12
            try clear c1
            try clear c2
            try clear p2
            try clear c4
            try clear c4b0
            try clear c4b1
            try clear c7
            try clear c9
            try clear c9b0
            try clear c9b1
            try clear c12
            try clear c14
            try clear c16
            try clear c18
            try clear c20
            try clear c22
            try clear hcz10_0
            try clear hcz10_1
            try clear hcz10_2
            try clear hcz10_3
            try clear hcz10_4
            try clear hcz10_5
            try clear hcz10_6
            try clear hcz10_7
            try clear hcz13_0
            try clear hcz13_1
            try clear hcz13_2
            try clear hcz13_3
            try clear hcz13_4
            try clear hcz13_5
            try clear hcz13_6
            try clear hcz13_7
            try clear hcz23_0
            try clear hcz23_1
            try clear hcz23_2
            try clear hcz23_3
            try clear hcz23_4
            try clear hcz23_5
            try clear hcz23_6
            try clear hcz23_7
            try clear hcz24_0
            try clear hcz24_1
            try clear hcz24_2
            try clear hcz24_3
            try clear hcz24_4
            try clear hcz24_5
            try clear hcz24_6
            try clear hcz24_7
            try clear hcz25_0
            try clear hcz25_1
            try clear hcz25_2
            try clear hcz25_3
            try clear hcz25_4
            try clear hcz25_5
            try clear hcz25_6
            try clear hcz25_7
            try clear hcz26_0
            try clear hcz26_1
            try clear hcz26_2
            try clear hcz26_3
            try clear hcz26_4
            try clear hcz26_5
            try clear hcz26_6
            try clear hcz26_7
            try clear hcz27_0
            try clear hcz27_1
            try clear hcz27_2
            try clear hcz27_3
            try clear hcz27_4
            try clear hcz27_5
            try clear hcz27_6
            try clear hcz27_7
            try clear hcz5_0
            try clear hcz5_1
            try clear hcz5_2
            try clear hcz5_3
            try clear hcz5_4
            try clear hcz5_5
            try clear hcz5_6
            try clear hcz5_7
            try clear hcz6_0
            try clear hcz6_1
            try clear hcz6_2
            try clear hcz6_3
            try clear hcz6_4
            try clear hcz6_5
            try clear hcz6_6
            try clear hcz6_7
            try clear hfz10_0
            try clear hfz10_1
            try clear hfz10_2
            try clear hfz10_3
            try clear hfz10_4
            try clear hfz10_5
            try clear hfz10_6
            try clear hfz10_7
            try clear hfz13_0
            try clear hfz13_1
            try clear hfz13_2
            try clear hfz13_3
            try clear hfz13_4
            try clear hfz13_5
            try clear hfz13_6
            try clear hfz13_7
            try clear hfz23_0
            try clear hfz23_1
            try clear hfz23_2
            try clear hfz23_3
            try clear hfz23_4
            try clear hfz23_5
            try clear hfz23_6
            try clear hfz23_7
            try clear hfz24_0
            try clear hfz24_1
            try clear hfz24_2
            try clear hfz24_3
            try clear hfz24_4
            try clear hfz24_5
            try clear hfz24_6
            try clear hfz24_7
            try clear hfz25_0
            try clear hfz25_1
            try clear hfz25_2
            try clear hfz25_3
            try clear hfz25_4
            try clear hfz25_5
            try clear hfz25_6
            try clear hfz25_7
            try clear hfz26_0
            try clear hfz26_1
            try clear hfz26_2
            try clear hfz26_3
            try clear hfz26_4
            try clear hfz26_5
            try clear hfz26_6
            try clear hfz26_7
            try clear hfz27_0
            try clear hfz27_1
            try clear hfz27_2
            try clear hfz27_3
            try clear hfz27_4
            try clear hfz27_5
            try clear hfz27_6
            try clear hfz27_7
            try clear hfz5_0
            try clear hfz5_1
            try clear hfz5_2
            try clear hfz5_3
            try clear hfz5_4
            try clear hfz5_5
            try clear hfz5_6
            try clear hfz5_7
            try clear hfz6_0
            try clear hfz6_1
            try clear hfz6_2
            try clear hfz6_3
            try clear hfz6_4
            try clear hfz6_5
            try clear hfz6_6
            try clear hfz6_7
            try clear p2
            obtain ⟨kq, x61_11, rfl, HA, HJ11, BK221, HB⟩ := hcut
            cases kq with
            | zero => exact absurd HA.out (by simp [masterdiscref20_Encode.j1])
            | succ kj11 =>
              have H := HA.out
              clear HA
              simp only [masterdiscref20_Encode.j1] at H
              by_cases c28 : x61_11 = true
              · subst c28
                have H1 : (some ((⟨#[]⟩ : ByteArray), 2)) = some (r1, r2) := by rw [if_pos rfl] at H; exact H
                clear H
                have H := H1
                clear H1
                simp only [Option.some.injEq, Prod.mk.injEq] at H
                obtain ⟨rfl, rfl⟩ := H
                go_wp2
                go_ret2
                exact ⟨by first | rfl | (simp [errW_none, errW_some] <;> rfl) | (simp [*, errW_none, errW_some] <;> rfl), by repeat (first | (with_reducible first | exact HB.out | apply below_alloc | apply pw_below_drewN | apply below_drew1 | refine below_set ?_ GE221.out) | exact HB.out)⟩
              · replace c28 := Bool.eq_false_iff.mpr c28
                subst c28
                have H1 : ((some (([(t222) % 256, 0] : List Int) : List Int)).bind fun y229 => ((masterdiscref20_both.f kj11 a0_1 4).bind fun t232 => (if (strOfNums y229).size + t232.size ≤ 9223372036854775807 then ((masterdiscref20_both.f kj11 a0_2 4).bind fun t233 => (if ((strOfNums y229) ++ t232).size + t233.size ≤ 9223372036854775807 then (if (((strOfNums y229) ++ t232) ++ t233).size + t223.size ≤ 9223372036854775807 then ((some (([(a0_5) % 256, 0, 0] : List Int) : List Int)).bind fun y234 => (if ((((strOfNums y229) ++ t232) ++ t233) ++ t223).size + (strOfNums y234).size ≤ 9223372036854775807 then ((masterdiscref20_both.f kj11 a0_6 2).bind fun t237 => (if (((((strOfNums y229) ++ t232) ++ t233) ++ t223) ++ (strOfNums y234)).size + t237.size ≤ 9223372036854775807 then ((some (([((a0_0.size : Int)) % 256] : List Int) : List Int)).bind fun y238 => (if ((((((strOfNums y229) ++ t232) ++ t233) ++ t223) ++ (strOfNums y234)) ++ t237).size + (strOfNums y238).size ≤ 9223372036854775807 then (if (((((((strOfNums y229) ++ t232) ++ t233) ++ t223) ++ (strOfNums y234)) ++ t237) ++ (strOfNums y238)).size + a0_0.size ≤ 9223372036854775807 then (if ((a0_0.size : Int) % 2) = 0 then (if ((((((((strOfNums y229) ++ t232) ++ t233) ++ t223) ++ (strOfNums y234)) ++ t237) ++ (strOfNums y238)) ++ a0_0).size + 1 ≤ 9223372036854775807 then (if (((((((((strOfNums y229) ++ t232) ++ t233) ++ t223) ++ (strOfNums y234)) ++ t237) ++ (strOfNums y238)) ++ a0_0) ++ (⟨#[0]⟩ : ByteArray)).size + a0_7.size ≤ 9223372036854775807 then (some ((((((((((strOfNums y229) ++ t232) ++ t233) ++ t223) ++ (strOfNums y234)) ++ t237) ++ (strOfNums y238)) ++ a0_0) ++ (⟨#[0]⟩ : ByteArray)) ++ a0_7, 0)) else (none)) else (none)) else (if ((((((((strOfNums y229) ++ t232) ++ t233) ++ t223) ++ (strOfNums y234)) ++ t237) ++ (strOfNums y238)) ++ a0_0).size + a0_7.size ≤ 9223372036854775807 then (some (((((((((strOfNums y229) ++ t232) ++ t233) ++ t223) ++ (strOfNums y234)) ++ t237) ++ (strOfNums y238)) ++ a0_0) ++ a0_7, 0)) else (none))) else (none)) else (none))) else (none))) else (none))) else (none)) else (none))) else (none)))) = some (r1, r2) := by rw [if_neg (show ¬ (false = true) by decide)] at H; exact H
                clear H
                have H := H1
                clear H1
                obtain ⟨y229, hy229⟩ : ∃ y_ : List Int, y_ = (([(t222) % 256, 0] : List Int)) := ⟨_, rfl⟩
                replace H : ((masterdiscref20_both.f kj11 a0_1 4).bind fun t232 => (if (strOfNums y229).size + t232.size ≤ 9223372036854775807 then ((masterdiscref20_both.f kj11 a0_2 4).bind fun t233 => (if ((strOfNums y229) ++ t232).size + t233.size ≤ 9223372036854775807 then (if (((strOfNums y229) ++ t232) ++ t233).size + t223.size ≤ 9223372036854775807 then ((some (([(a0_5) % 256, 0, 0] : List Int) : List Int)).bind fun y234 => (if ((((strOfNums y229) ++ t232) ++ t233) ++ t223).size + (strOfNums y234).size ≤ 9223372036854775807 then ((masterdiscref20_both.f kj11 a0_6 2).bind fun t237 => (if (((((strOfNums y229) ++ t232) ++ t233) ++ t223) ++ (strOfNums y234)).size + t237.size ≤ 9223372036854775807 then ((some (([((a0_0.size : Int)) % 256] : List Int) : List Int)).bind fun y238 => (if ((((((strOfNums y229) ++ t232) ++ t233) ++ t223) ++ (strOfNums y234)) ++ t237).size + (strOfNums y238).size ≤ 9223372036854775807 then (if (((((((strOfNums y229) ++ t232) ++ t233) ++ t223) ++ (strOfNums y234)) ++ t237) ++ (strOfNums y238)).size + a0_0.size ≤ 9223372036854775807 then (if ((a0_0.size : Int) % 2) = 0 then (if ((((((((strOfNums y229) ++ t232) ++ t233) ++ t223) ++ (strOfNums y234)) ++ t237) ++ (strOfNums y238)) ++ a0_0).size + 1 ≤ 9223372036854775807 then (if (((((((((strOfNums y229) ++ t232) ++ t233) ++ t223) ++ (strOfNums y234)) ++ t237) ++ (strOfNums y238)) ++ a0_0) ++ (⟨#[0]⟩ : ByteArray)).size + a0_7.size ≤ 9223372036854775807 then (some ((((((((((strOfNums y229) ++ t232) ++ t233) ++ t223) ++ (strOfNums y234)) ++ t237) ++ (strOfNums y238)) ++ a0_0) ++ (⟨#[0]⟩ : ByteArray)) ++ a0_7, 0)) else (none)) else (none)) else (if ((((((((strOfNums y229) ++ t232) ++ t233) ++ t223) ++ (strOfNums y234)) ++ t237) ++ (strOfNums y238)) ++ a0_0).size + a0_7.size ≤ 9223372036854775807 then (some (((((((((strOfNums y229) ++ t232) ++ t233) ++ t223) ++ (strOfNums y234)) ++ t237) ++ (strOfNums y238)) ++ a0_0) ++ a0_7, 0)) else (none))) else (none)) else (none))) else (none))) else (none))) else (none)) else (none))) else (none))) = some (r1, r2) := by first | (rw [hy229]; with_reducible exact H) | (have H2_ := (Option.bind_some _ _).symm.trans H; rw [hy229]; with_reducible exact H2_) | (have H2_ := (Option.bind_some _ _).symm.trans H; with_reducible exact H2_) | with_reducible exact H | (rw [hy229]; exact H) | exact H
                have Ny229 := Aside0.mk hy229
                clear hy229
                replace H := Option.bind_eq_some_iff.mp H
                obtain ⟨t232, A290, H⟩ := H
                replace H : (if (strOfNums y229).size + t232.size ≤ 9223372036854775807 then ((masterdiscref20_both.f kj11 a0_2 4).bind fun t233 => (if ((strOfNums y229) ++ t232).size + t233.size ≤ 9223372036854775807 then (if (((strOfNums y229) ++ t232) ++ t233).size + t223.size ≤ 9223372036854775807 then ((some (([(a0_5) % 256, 0, 0] : List Int) : List Int)).bind fun y234 => (if ((((strOfNums y229) ++ t232) ++ t233) ++ t223).size + (strOfNums y234).size ≤ 9223372036854775807 then ((masterdiscref20_both.f kj11 a0_6 2).bind fun t237 => (if (((((strOfNums y229) ++ t232) ++ t233) ++ t223) ++ (strOfNums y234)).size + t237.size ≤ 9223372036854775807 then ((some (([((a0_0.size : Int)) % 256] : List Int) : List Int)).bind fun y238 => (if ((((((strOfNums y229) ++ t232) ++ t233) ++ t223) ++ (strOfNums y234)) ++ t237).size + (strOfNums y238).size ≤ 9223372036854775807 then (if (((((((strOfNums y229) ++ t232) ++ t233) ++ t223) ++ (strOfNums y234)) ++ t237) ++ (strOfNums y238)).size + a0_0.size ≤ 9223372036854775807 then (if ((a0_0.size : Int) % 2) = 0 then (if ((((((((strOfNums y229) ++ t232) ++ t233) ++ t223) ++ (strOfNums y234)) ++ t237) ++ (strOfNums y238)) ++ a0_0).size + 1 ≤ 9223372036854775807 then (if (((((((((strOfNums y229) ++ t232) ++ t233) ++ t223) ++ (strOfNums y234)) ++ t237) ++ (strOfNums y238)) ++ a0_0) ++ (⟨#[0]⟩ : ByteArray)).size + a0_7.size ≤ 9223372036854775807 then (some ((((((((((strOfNums y229) ++ t232) ++ t233) ++ t223) ++ (strOfNums y234)) ++ t237) ++ (strOfNums y238)) ++ a0_0) ++ (⟨#[0]⟩ : ByteArray)) ++ a0_7, 0)) else (none)) else (none)) else (if ((((((((strOfNums y229) ++ t232) ++ t233) ++ t223) ++ (strOfNums y234)) ++ t237) ++ (strOfNums y238)) ++ a0_0).size + a0_7.size ≤ 9223372036854775807 then (some (((((((((strOfNums y229) ++ t232) ++ t233) ++ t223) ++ (strOfNums y234)) ++ t237) ++ (strOfNums y238)) ++ a0_0) ++ a0_7, 0)) else (none))) else (none)) else (none))) else (none))) else (none))) else (none)) else (none))) else (none)) = some (r1, r2) := H
                have A29 := Aside0.mk A290
                clear A290
                by_cases c30 : (strOfNums y229).size + t232.size ≤ 9223372036854775807
                · rw [if_pos c30] at H
                  have c30b0 := eq_true c30
                  have c30b1 : decide ((strOfNums y229).size + t232.size ≤ 9223372036854775807) = true := decide_eq_true c30
                  try have c30b2 : (9223372036854775807 < (strOfNums y229).size + t232.size) = False := eq_false (Nat.not_lt.2 c30)
                  replace H := Option.bind_eq_some_iff.mp H
                  obtain ⟨t233, A310, H⟩ := H
                  replace H : (if ((strOfNums y229) ++ t232).size + t233.size ≤ 9223372036854775807 then (if (((strOfNums y229) ++ t232) ++ t233).size + t223.size ≤ 9223372036854775807 then ((some (([(a0_5) % 256, 0, 0] : List Int) : List Int)).bind fun y234 => (if ((((strOfNums y229) ++ t232) ++ t233) ++ t223).size + (strOfNums y234).size ≤ 9223372036854775807 then ((masterdiscref20_both.f kj11 a0_6 2).bind fun t237 => (if (((((strOfNums y229) ++ t232) ++ t233) ++ t223) ++ (strOfNums y234)).size + t237.size ≤ 9223372036854775807 then ((some (([((a0_0.size : Int)) % 256] : List Int) : List Int)).bind fun y238 => (if ((((((strOfNums y229) ++ t232) ++ t233) ++ t223) ++ (strOfNums y234)) ++ t237).size + (strOfNums y238).size ≤ 9223372036854775807 then (if (((((((strOfNums y229) ++ t232) ++ t233) ++ t223) ++ (strOfNums y234)) ++ t237) ++ (strOfNums y238)).size + a0_0.size ≤ 9223372036854775807 then (if ((a0_0.size : Int) % 2) = 0 then (if ((((((((strOfNums y229) ++ t232) ++ t233) ++ t223) ++ (strOfNums y234)) ++ t237) ++ (strOfNums y238)) ++ a0_0).size + 1 ≤ 9223372036854775807 then (if (((((((((strOfNums y229) ++ t232) ++ t233) ++ t223) ++ (strOfNums y234)) ++ t237) ++ (strOfNums y238)) ++ a0_0) ++ (⟨#[0]⟩ : ByteArray)).size + a0_7.size ≤ 9223372036854775807 then (some ((((((((((strOfNums y229) ++ t232) ++ t233) ++ t223) ++ (strOfNums y234)) ++ t237) ++ (strOfNums y238)) ++ a0_0) ++ (⟨#[0]⟩ : ByteArray)) ++ a0_7, 0)) else (none)) else (none)) else (if ((((((((strOfNums y229) ++ t232) ++ t233) ++ t223) ++ (strOfNums y234)) ++ t237) ++ (strOfNums y238)) ++ a0_0).size + a0_7.size ≤ 9223372036854775807 then (some (((((((((strOfNums y229) ++ t232) ++ t233) ++ t223) ++ (strOfNums y234)) ++ t237) ++ (strOfNums y238)) ++ a0_0) ++ a0_7, 0)) else (none))) else (none)) else (none))) else (none))) else (none))) else (none)) else (none)) = some (r1, r2) := H
                  have A31 := Aside0.mk A310
                  clear A310
                  by_cases c32 : ((strOfNums y229) ++ t232).size + t233.size ≤ 9223372036854775807
                  · rw [if_pos c32] at H
                    have c32b0 := eq_true c32
                    have c32b1 : decide (((strOfNums y229) ++ t232).size + t233.size ≤ 9223372036854775807) = true := decide_eq_true c32
                    try have c32b2 : (9223372036854775807 < ((strOfNums y229) ++ t232).size + t233.size) = False := eq_false (Nat.not_lt.2 c32)
                    (try simp only [ByteArray.size_append] at c32b0 c32b1 c32b2)
                    by_cases c33 : (((strOfNums y229) ++ t232) ++ t233).size + t223.size ≤ 9223372036854775807
                    · rw [if_pos c33] at H
                      have c33b0 := eq_true c33
                      have c33b1 : decide ((((strOfNums y229) ++ t232) ++ t233).size + t223.size ≤ 9223372036854775807) = true := decide_eq_true c33
                      try have c33b2 : (9223372036854775807 < (((strOfNums y229) ++ t232) ++ t233).size + t223.size) = False := eq_false (Nat.not_lt.2 c33)
                      (try simp only [ByteArray.size_append] at c33b0 c33b1 c33b2)
                      obtain ⟨y234, hy234⟩ : ∃ y_ : List Int, y_ = (([(a0_5) % 256, 0, 0] : List Int)) := ⟨_, rfl⟩
                      replace H : (if ((((strOfNums y229) ++ t232) ++ t233) ++ t223).size + (strOfNums y234).size ≤ 9223372036854775807 then ((masterdiscref20_both.f kj11 a0_6 2).bind fun t237 => (if (((((strOfNums y229) ++ t232) ++ t233) ++ t223) ++ (strOfNums y234)).size + t237.size ≤ 9223372036854775807 then ((some (([((a0_0.size : Int)) % 256] : List Int) : List Int)).bind fun y238 => (if ((((((strOfNums y229) ++ t232) ++ t233) ++ t223) ++ (strOfNums y234)) ++ t237).size + (strOfNums y238).size ≤ 9223372036854775807 then (if (((((((strOfNums y229) ++ t232) ++ t233) ++ t223) ++ (strOfNums y234)) ++ t237) ++ (strOfNums y238)).size + a0_0.size ≤ 9223372036854775807 then (if ((a0_0.size : Int) % 2) = 0 then (if ((((((((strOfNums y229) ++ t232) ++ t233) ++ t223) ++ (strOfNums y234)) ++ t237) ++ (strOfNums y238)) ++ a0_0).size + 1 ≤ 9223372036854775807 then (if (((((((((strOfNums y229) ++ t232) ++ t233) ++ t223) ++ (strOfNums y234)) ++ t237) ++ (strOfNums y238)) ++ a0_0) ++ (⟨#[0]⟩ : ByteArray)).size + a0_7.size ≤ 9223372036854775807 then (some ((((((((((strOfNums y229) ++ t232) ++ t233) ++ t223) ++ (strOfNums y234)) ++ t237) ++ (strOfNums y238)) ++ a0_0) ++ (⟨#[0]⟩ : ByteArray)) ++ a0_7, 0)) else (none)) else (none)) else (if ((((((((strOfNums y229) ++ t232) ++ t233) ++ t223) ++ (strOfNums y234)) ++ t237) ++ (strOfNums y238)) ++ a0_0).size + a0_7.size ≤ 9223372036854775807 then (some (((((((((strOfNums y229) ++ t232) ++ t233) ++ t223) ++ (strOfNums y234)) ++ t237) ++ (strOfNums y238)) ++ a0_0) ++ a0_7, 0)) else (none))) else (none)) else (none))) else (none))) else (none)) = some (r1, r2) := by first | (rw [hy234]; with_reducible exact H) | (have H2_ := (Option.bind_some _ _).symm.trans H; rw [hy234]; with_reducible exact H2_) | (have H2_ := (Option.bind_some _ _).symm.trans H; with_reducible exact H2_) | with_reducible exact H | (rw [hy234]; exact H) | exact H
                      have Ny234 := Aside0.mk hy234
                      clear hy234
                      by_cases c34 : ((((strOfNums y229) ++ t232) ++ t233) ++ t223).size + (strOfNums y234).size ≤ 9223372036854775807
                      · rw [if_pos c34] at H
                        have c34b0 := eq_true c34
                        have c34b1 : decide (((((strOfNums y229) ++ t232) ++ t233) ++ t223).size + (strOfNums y234).size ≤ 9223372036854775807) = true := decide_eq_true c34
                        try have c34b2 : (9223372036854775807 < ((((strOfNums y229) ++ t232) ++ t233) ++ t223).size + (strOfNums y234).size) = False := eq_false (Nat.not_lt.2 c34)
                        (try simp only [ByteArray.size_append] at c34b0 c34b1 c34b2)
                        replace H := Option.bind_eq_some_iff.mp H
                        obtain ⟨t237, A350, H⟩ := H
                        replace H : (if (((((strOfNums y229) ++ t232) ++ t233) ++ t223) ++ (strOfNums y234)).size + t237.size ≤ 9223372036854775807 then ((some (([((a0_0.size : Int)) % 256] : List Int) : List Int)).bind fun y238 => (if ((((((strOfNums y229) ++ t232) ++ t233) ++ t223) ++ (strOfNums y234)) ++ t237).size + (strOfNums y238).size ≤ 9223372036854775807 then (if (((((((strOfNums y229) ++ t232) ++ t233) ++ t223) ++ (strOfNums y234)) ++ t237) ++ (strOfNums y238)).size + a0_0.size ≤ 9223372036854775807 then (if ((a0_0.size : Int) % 2) = 0 then (if ((((((((strOfNums y229) ++ t232) ++ t233) ++ t223) ++ (strOfNums y234)) ++ t237) ++ (strOfNums y238)) ++ a0_0).size + 1 ≤ 9223372036854775807 then (if (((((((((strOfNums y229) ++ t232) ++ t233) ++ t223) ++ (strOfNums y234)) ++ t237) ++ (strOfNums y238)) ++ a0_0) ++ (⟨#[0]⟩ : ByteArray)).size + a0_7.size ≤ 9223372036854775807 then (some ((((((((((strOfNums y229) ++ t232) ++ t233) ++ t223) ++ (strOfNums y234)) ++ t237) ++ (strOfNums y238)) ++ a0_0) ++ (⟨#[0]⟩ : ByteArray)) ++ a0_7, 0)) else (none)) else (none)) else (if ((((((((strOfNums y229) ++ t232) ++ t233) ++ t223) ++ (strOfNums y234)) ++ t237) ++ (strOfNums y238)) ++ a0_0).size + a0_7.size ≤ 9223372036854775807 then (some (((((((((strOfNums y229) ++ t232) ++ t233) ++ t223) ++ (strOfNums y234)) ++ t237) ++ (strOfNums y238)) ++ a0_0) ++ a0_7, 0)) else (none))) else (none)) else (none))) else (none)) = some (r1, r2) := H
                        have A35 := Aside0.mk A350
                        clear A350
                        by_cases c36 : (((((strOfNums y229) ++ t232) ++ t233) ++ t223) ++ (strOfNums y234)).size + t237.size ≤ 9223372036854775807
                        · rw [if_pos c36] at H
                          have c36b0 := eq_true c36
                          have c36b1 : decide ((((((strOfNums y229) ++ t232) ++ t233) ++ t223) ++ (strOfNums y234)).size + t237.size ≤ 9223372036854775807) = true := decide_eq_true c36
                          try have c36b2 : (9223372036854775807 < (((((strOfNums y229) ++ t232) ++ t233) ++ t223) ++ (strOfNums y234)).size + t237.size) = False := eq_false (Nat.not_lt.2 c36)
                          (try simp only [ByteArray.size_append] at c36b0 c36b1 c36b2)
                          obtain ⟨y238, hy238⟩ : ∃ y_ : List Int, y_ = (([((a0_0.size : Int)) % 256] : List Int)) := ⟨_, rfl⟩
                          replace H : (if ((((((strOfNums y229) ++ t232) ++ t233) ++ t223) ++ (strOfNums y234)) ++ t237).size + (strOfNums y238).size ≤ 9223372036854775807 then (if (((((((strOfNums y229) ++ t232) ++ t233) ++ t223) ++ (strOfNums y234)) ++ t237) ++ (strOfNums y238)).size + a0_0.size ≤ 9223372036854775807 then (if ((a0_0.size : Int) % 2) = 0 then (if ((((((((strOfNums y229) ++ t232) ++ t233) ++ t223) ++ (strOfNums y234)) ++ t237) ++ (strOfNums y238)) ++ a0_0).size + 1 ≤ 9223372036854775807 then (if (((((((((strOfNums y229) ++ t232) ++ t233) ++ t223) ++ (strOfNums y234)) ++ t237) ++ (strOfNums y238)) ++ a0_0) ++ (⟨#[0]⟩ : ByteArray)).size + a0_7.size ≤ 9223372036854775807 then (some ((((((((((strOfNums y229) ++ t232) ++ t233) ++ t223) ++ (strOfNums y234)) ++ t237) ++ (strOfNums y238)) ++ a0_0) ++ (⟨#[0]⟩ : ByteArray)) ++ a0_7, 0)) else (none)) else (none)) else (if ((((((((strOfNums y229) ++ t232) ++ t233) ++ t223) ++ (strOfNums y234)) ++ t237) ++ (strOfNums y238)) ++ a0_0).size + a0_7.size ≤ 9223372036854775807 then (some (((((((((strOfNums y229) ++ t232) ++ t233) ++ t223) ++ (strOfNums y234)) ++ t237) ++ (strOfNums y238)) ++ a0_0) ++ a0_7, 0)) else (none))) else (none)) else (none)) = some (r1, r2) := by first | (rw [hy238]; with_reducible exact H) | (have H2_ := (Option.bind_some _ _).symm.trans H; rw [hy238]; with_reducible exact H2_) | (have H2_ := (Option.bind_some _ _).symm.trans H; with_reducible exact H2_) | with_reducible exact H | (rw [hy238]; exact H) | exact H
                          have Ny238 := Aside0.mk hy238
                          clear hy238
                          by_cases c37 : ((((((strOfNums y229) ++ t232) ++ t233) ++ t223) ++ (strOfNums y234)) ++ t237).size + (strOfNums y238).size ≤ 9223372036854775807
                          · rw [if_pos c37] at H
                            have c37b0 := eq_true c37
                            have c37b1 : decide (((((((strOfNums y229) ++ t232) ++ t233) ++ t223) ++ (strOfNums y234)) ++ t237).size + (strOfNums y238).size ≤ 9223372036854775807) = true := decide_eq_true c37
                            try have c37b2 : (9223372036854775807 < ((((((strOfNums y229) ++ t232) ++ t233) ++ t223) ++ (strOfNums y234)) ++ t237).size + (strOfNums y238).size) = False := eq_false (Nat.not_lt.2 c37)
                            (try simp only [ByteArray.size_append] at c37b0 c37b1 c37b2)
                            by_cases c38 : (((((((strOfNums y229) ++ t232) ++ t233) ++ t223) ++ (strOfNums y234)) ++ t237) ++ (strOfNums y238)).size + a0_0.size ≤ 9223372036854775807
                            · rw [if_pos c38] at H
                              have c38b0 := eq_true c38
                              have c38b1 : decide ((((((((strOfNums y229) ++ t232) ++ t233) ++ t223) ++ (strOfNums y234)) ++ t237) ++ (strOfNums y238)).size + a0_0.size ≤ 9223372036854775807) = true := decide_eq_true c38
                              try have c38b2 : (9223372036854775807 < (((((((strOfNums y229) ++ t232) ++ t233) ++ t223) ++ (strOfNums y234)) ++ t237) ++ (strOfNums y238)).size + a0_0.size) = False := eq_false (Nat.not_lt.2 c38)
                              (try simp only [ByteArray.size_append] at c38b0 c38b1 c38b2)
                              by_cases c39 : ((a0_0.size : Int) % 2) = 0
                              · rw [if_pos c39] at H
                                have c39b0 : (((a0_0.size : Int) % 2) == 0) = true := beq_iff_eq.mpr c39
                                have c39b1 : (((a0_0.size : Int) % 2) != 0) = false := bne_eq_false_iff_eq.mpr c39
                                clear c39
                                by_cases c40 : ((((((((strOfNums y229) ++ t232) ++ t233) ++ t223) ++ (strOfNums y234)) ++ t237) ++ (strOfNums y238)) ++ a0_0).size + 1 ≤ 9223372036854775807
                                · rw [if_pos c40] at H
                                  have c40b0 := eq_true c40
                                  have c40b1 : decide (((((((((strOfNums y229) ++ t232) ++ t233) ++ t223) ++ (strOfNums y234)) ++ t237) ++ (strOfNums y238)) ++ a0_0).size + 1 ≤ 9223372036854775807) = true := decide_eq_true c40
                                  try have c40b2 : (9223372036854775807 < ((((((((strOfNums y229) ++ t232) ++ t233) ++ t223) ++ (strOfNums y234)) ++ t237) ++ (strOfNums y238)) ++ a0_0).size + 1) = False := eq_false (Nat.not_lt.2 c40)
                                  (try simp only [ByteArray.size_append] at c40b0 c40b1 c40b2)
                                  by_cases c41 : (((((((((strOfNums y229) ++ t232) ++ t233) ++ t223) ++ (strOfNums y234)) ++ t237) ++ (strOfNums y238)) ++ a0_0) ++ (⟨#[0]⟩ : ByteArray)).size + a0_7.size ≤ 9223372036854775807
                                  · rw [if_pos c41] at H
                                    have c41b0 := eq_true c41
                                    have c41b1 : decide ((((((((((strOfNums y229) ++ t232) ++ t233) ++ t223) ++ (strOfNums y234)) ++ t237) ++ (strOfNums y238)) ++ a0_0) ++ (⟨#[0]⟩ : ByteArray)).size + a0_7.size ≤ 9223372036854775807) = true := decide_eq_true c41
                                    try have c41b2 : (9223372036854775807 < (((((((((strOfNums y229) ++ t232) ++ t233) ++ t223) ++ (strOfNums y234)) ++ t237) ++ (strOfNums y238)) ++ a0_0) ++ (⟨#[0]⟩ : ByteArray)).size + a0_7.size) = False := eq_false (Nat.not_lt.2 c41)
                                    (try simp only [ByteArray.size_append] at c41b0 c41b1 c41b2)
                                    simp only [Option.some.injEq, Prod.mk.injEq] at H
                                    obtain ⟨rfl, rfl⟩ := H
                                    try go_wp2
                                    have n0_ := Aside0.mk (blk_drew BK221.out)
                                    have n1_ := Aside0.mk (below_drew1 HB.out)
                                    clear BK221
                                    clear HB
                                    have BK221 := n0_
                                    have HB := n1_
                                    clear n0_ n1_
                                    refine start_ (n := 35) (S := fun w' => True) (ds := []) #[false, false, false, false, false, false, false, false, false, false, false, false, false, false, false, false, false, false, false, false, false, false, false, false, false, false, false, false, false, false, false, false, false, false, false] (by kernel_rfl) rfl rfl trivial (fun hHeld => ?_); refine with_tabW masterdiscref20_Encode.tab9 masterdiscref20_Encode.bits9 (fun HT_ HW_ => ?_)
                                    generalize wc.drew = w42 at BK221 HB hHeld ⊢
                                    refine pure_ (i := 0) (N := some 62) (v := ?_) (a' := ?_) #[true, false, false, false, false, false, false, false, false, false, false, false, false, false, false, false, false, false, false, false, false, false, false, false, false, false, false, false, false, false, false, false, false, false, false] rfl rfl (any_of HT_.out (by kernel_rfl)) (fun _ _ _ h => h) (Or.inl ⟨by rfl, ?_⟩) ?_ ?_
                                    rotate_left
                                    · intro w'
                                      go_simp
                                      with_reducible rfl
                                    rotate_left
                                    · simp only [Act.put, List.setIfInBounds_toArray, List.set_cons_zero, List.set_cons_succ, i64_w, i32_w]
                                      rfl
                                    refine pure_ (i := 4) (N := some 66) (v := ?_) (a' := ?_) #[true, false, false, false, true, false, false, false, false, false, false, false, false, false, false, false, false, false, false, false, false, false, false, false, false, false, false, false, false, false, false, false, false, false, false] rfl rfl (any_of HT_.out (by kernel_rfl)) (fun _ _ _ h => h) (Or.inl ⟨by rfl, ?_⟩) ?_ ?_
                                    rotate_left
                                    · intro w'
                                      go_simp
                                      with_reducible rfl
                                    rotate_left
                                    · simp only [Act.put, List.setIfInBounds_toArray, List.set_cons_zero, List.set_cons_succ, i64_w, i32_w]
                                      rfl
                                    refine pure_ (i := 8) (N := some 70) (v := ?_) (a' := ?_) #[true, false, false, false, true, false, false, false, true, false, false, false, false, false, false, false, false, false, false, false, false, false, false, false, false, false, false, false, false, false, false, false, false, false, false] rfl rfl (any_of HT_.out (by kernel_rfl)) (fun _ _ _ h => h) (Or.inl ⟨by rfl, ?_⟩) ?_ ?_
                                    rotate_left
                                    · intro w'
                                      go_simp
                                      with_reducible rfl
                                    rotate_left
                                    · simp only [Act.put, List.setIfInBounds_toArray, List.set_cons_zero, List.set_cons_succ, i64_w, i32_w]
                                      rfl
                                    refine pure_ (i := 12) (N := some 74) (v := ?_) (a' := ?_) #[true, false, false, false, true, false, false, false, true, false, false, false, true, false, false, false, false, false, false, false, false, false, false, false, false, false, false, false, false, false, false, false, false, false, false] rfl rfl (any_of HT_.out (by kernel_rfl)) (fun _ _ _ h => h) (Or.inl ⟨by rfl, ?_⟩) ?_ ?_
                                    rotate_left
                                    · intro w'
                                      go_simp
                                      with_reducible rfl
                                    rotate_left
                                    · simp only [Act.put, List.setIfInBounds_toArray, List.set_cons_zero, List.set_cons_succ, i64_w, i32_w]
                                      rfl
                                    refine pure_ (i := 14) (N := some 76) (v := ?_) (a' := ?_) #[true, false, false, false, true, false, false, false, true, false, false, false, true, false, true, false, false, false, false, false, false, false, false, false, false, false, false, false, false, false, false, false, false, false, false] rfl rfl (any_of HT_.out (by kernel_rfl)) (fun _ _ _ h => h) (Or.inl ⟨by rfl, ?_⟩) ?_ ?_
                                    rotate_left
                                    · intro w'
                                      go_simp
                                      with_reducible rfl
                                    rotate_left
                                    · simp only [Act.put, List.setIfInBounds_toArray, List.set_cons_zero, List.set_cons_succ, i64_w, i32_w]
                                      rfl
                                    refine pure_ (i := 20) (N := some 82) (v := ?_) (a' := ?_) #[true, false, false, false, true, false, false, false, true, false, false, false, true, false, true, false, false, false, false, false, true, false, false, false, false, false, false, false, false, false, false, false, false, false, false] rfl rfl (any_of HT_.out (by kernel_rfl)) (fun _ _ _ h => h) (Or.inl ⟨by rfl, ?_⟩) ?_ ?_
                                    rotate_left
                                    · intro w'
                                      go_simp
                                      with_reducible rfl
                                    rotate_left
                                    · simp only [Act.put, List.setIfInBounds_toArray, List.set_cons_zero, List.set_cons_succ, i64_w, i32_w]
                                      rfl
                                    refine pure_ (i := 24) (N := some 86) (v := ?_) (a' := ?_) #[true, false, false, false, true, false, false, false, true, false, false, false, true, false, true, false, false, false, false, false, true, false, false, false, true, false, false, false, false, false, false, false, false, false, false] rfl rfl (any_of HT_.out (by kernel_rfl)) (fun _ _ _ h => h) (Or.inl ⟨by rfl, ?_⟩) ?_ ?_
                                    rotate_left
                                    · intro w'
                                      go_simp
                                      with_reducible rfl
                                    rotate_left
                                    · simp only [Act.put, List.setIfInBounds_toArray, List.set_cons_zero, List.set_cons_succ, i64_w, i32_w]
                                      rfl
                                    refine pure_ (i := 31) (N := some 93) (v := ?_) (a' := ?_) #[true, false, false, false, true, false, false, false, true, false, false, false, true, false, true, false, false, false, false, false, true, false, false, false, true, false, false, false, false, false, false, true, false, false, false] rfl rfl (any_of HT_.out (by kernel_rfl)) (fun _ _ _ h => h) (Or.inl ⟨by rfl, ?_⟩) ?_ ?_
                                    rotate_left
                                    · intro w'
                                      go_simp
                                      with_reducible rfl
                                    rotate_left
                                    · simp only [Act.put, List.setIfInBounds_toArray, List.set_cons_zero, List.set_cons_succ, i64_w, i32_w]
                                      rfl
                                    refine inv_at [1, 2, 3, 5, 6, 7, 9, 10, 11, 13, 15, 16, 17, 18, 19, 21, 22, 23, 25, 26, 27, 28, 29, 30, 32, 33, 34] (fun a0_ b a w' => ∃ (v230 : Value) (v235 : Value) (v239 : Value), a = putSel a0_ b [(1, 63, .int .u8 ((t222) % 256)), (2, 64, v230), (3, 65, .string (strOfNums y229)), (5, 67, .int .i64 a0_1), (6, 68, .string t232), (7, 69, .string ((strOfNums y229) ++ t232)), (9, 71, .int .i64 a0_2), (10, 72, .string t233), (11, 73, .string (((strOfNums y229) ++ t232) ++ t233)), (13, 75, .string ((((strOfNums y229) ++ t232) ++ t233) ++ t223)), (15, 77, .int .i64 a0_5), (16, 78, .int .u8 ((a0_5) % 256)), (17, 79, v235), (18, 80, .string (strOfNums y234)), (19, 81, .string (((((strOfNums y229) ++ t232) ++ t233) ++ t223) ++ (strOfNums y234))), (21, 83, .int .i64 a0_6), (22, 84, .string t237), (23, 85, .string ((((((strOfNums y229) ++ t232) ++ t233) ++ t223) ++ (strOfNums y234)) ++ t237)), (25, 87, .string a0_0), (26, 88, .int .i64 (a0_0.size : Int)), (27, 89, .int .u8 (((a0_0.size : Int)) % 256)), (28, 90, v239), (29, 91, .string (strOfNums y238)), (30, 92, .string (((((((strOfNums y229) ++ t232) ++ t233) ++ t223) ++ (strOfNums y234)) ++ t237) ++ (strOfNums y238))), (32, 94, .string a0_0), (33, 95, .string ((((((((strOfNums y229) ++ t232) ++ t233) ++ t223) ++ (strOfNums y234)) ++ t237) ++ (strOfNums y238)) ++ a0_0)), (34, 7, .string ((((((((strOfNums y229) ++ t232) ++ t233) ++ t223) ++ (strOfNums y234)) ++ t237) ++ (strOfNums y238)) ++ a0_0))] ∧ (w'.heap[gb221]? = some (.cells #[.string a0_0, .int .i64 a0_1, .int .i64 a0_2, .int .i64 a0_3, .int .i64 a0_4, .int .i64 a0_5, .int .i64 a0_6, .string a0_7] 23 (0, 0))) ∧ (Below w.heap.size w w') ∧ (b 2 = true → Kd.R (Kd.int .u8) 5 w' w.heap.size (fun _ => True) v230 y229) ∧ (b 17 = true → Kd.R (Kd.int .u8) 5 w' w.heap.size (fun _ => True) v235 y234) ∧ (b 28 = true → Kd.R (Kd.int .u8) 5 w' w.heap.size (fun _ => True) v239 y238)) HT_.out HW_.out (by kernel_rfl) (by kernel_rfl) ?_ ?_ ?_
                                    · exact ⟨.bool false, .bool false, .bool false, by simp only [putSel, Bool.false_eq_true, if_false], BK221.out, HB.out, fun h_ => absurd h_ (by decide), fun h_ => absurd h_ (by decide), fun h_ => absurd h_ (by decide)⟩
                                    · skip
                                      clear BK221 HB
                                      refine steps_cons ?_ ?_
                                      · rintro b a w' ⟨v230, v235, v239, ha, Q_BK221, Q_HB, Q_HO231, Q_HO236, Q_HO240⟩ hb_ hon hoff
                                        refine ⟨_, rfl, fun K hK => ?_⟩
                                        have e62 : a.tmps[62]? = some (.int .i64 t222) := by rw [ha]; exact (putSel_off rfl).trans rfl
                                        replace ha := Aside0.mk ha
                                        have BK221 := Aside0.mk Q_BK221
                                        have HB := Aside0.mk Q_HB
                                        refine value_ (w1 := w') (v := .int .u8 ((t222) % 256)) (by rfl) rfl ?_ ?_
                                        · go_simp
                                          (try simp only [i64_w])
                                          try first | rfl | assumption | (simp only [ByteArray.size_append] at *; omega)
                                        refine hK.out _ _ ⟨v230, v235, v239, (by rw [ha.out]; exact putSel_upk 0 hb_ rfl rfl rfl), Q_BK221, Q_HB, fun h0_ => absurd ((hoff 2 (by kernel_rfl)).symm.trans h0_) (by decide), Q_HO236, Q_HO240⟩
                                      refine steps_cons ?_ ?_
                                      · rintro b a w' ⟨v230, v235, v239, ha, Q_BK221, Q_HB, Q_HO231, Q_HO236, Q_HO240⟩ hb_ hon hoff
                                        refine ⟨_, rfl, fun K hK => ?_⟩
                                        have e63 : a.tmps[63]? = some (.int .u8 ((t222) % 256)) := by rw [ha]; exact putSel_on (e := (1, 63, .int .u8 ((t222) % 256))) 0 rfl rfl (hon 1 (by kernel_rfl)) rfl
                                        replace ha := Aside0.mk ha
                                        have BK221 := Aside0.mk Q_BK221
                                        have HB := Aside0.mk Q_HB
                                        refine Kd.R_lit_step (Kd.int .u8) _ 5 ?hg (N := 64) ?hd (xs := ([(t222) % 256, 0] : List Int)) (inner := [.int .u8 ((t222) % 256), .int .u8 0]) (ok := fun _ => True) (okp := fun _ => True) ?hr ?hp (fun _ hk => hk) trivial (Below.refl _ _) (Nat.le_refl _) (by simp) ?_; (case hd => rfl); (case hg => rfl); (case hr => first | (go_simp; done) | (go_simp; rfl)); (case hp => exact (Reps.one (show Kd.M (Kd.int .u8) _ _ _ ((t222) % 256) [.int .u8 ((t222) % 256)] from rfl) (Reps.one (show Kd.M (Kd.int .u8) _ _ _ 0 [.int .u8 0] from rfl) (Reps.none _ _))))
                                        intro v230 w43 ho44 hb hg_ hnew_
                                        clear hg_ hnew_
                                        (first | rw [← Ny229.out] at ho44 | (simp only [Int.reduceToNat] at ho44; rw [← Ny229.out] at ho44))
                                        have n0_ := Aside0.mk (Kd.R_lower ho44 (below_size (by repeat (first | (with_reducible first | exact HB.out | apply below_alloc | apply pw_below_drewN | apply below_drew1 | refine below_set ?_ GE221.out) | exact HB.out))))
                                        have n1_ := Aside0.mk (blk_below (g := gb221) (o := .cells #[.string a0_0, .int .i64 a0_1, .int .i64 a0_2, .int .i64 a0_3, .int .i64 a0_4, .int .i64 a0_5, .int .i64 a0_6, .string a0_7] 23 (0, 0)) (by (with_reducible repeat (first | refine blk_drewN ?_ _ | refine blk_drew ?_ | refine blk_alloc ?_ _)); exact BK221.out) hb)
                                        have n2_ := Aside0.mk (below_step (by repeat (first | (with_reducible first | exact HB.out | apply below_alloc | apply pw_below_drewN | apply below_drew1 | refine below_set ?_ GE221.out) | exact HB.out)) hb)
                                        have z_HO236 := fun (h0_ : b 17 = true) => (show Kd.R (Kd.int .u8) 5 w43 w.heap.size (fun _ => True) v235 y234 from by first | exact (Kd.R_elder' (by (with_reducible repeat (first | apply Kd.R_alloc | apply Kd.R_drewN | apply Kd.R_drew)); exact (Q_HO236 h0_)) (Kd.R_base ho44) hb) | exact Kd.R_mono (Kd.R_elder' (by (with_reducible repeat (first | apply Kd.R_alloc | apply Kd.R_drewN | apply Kd.R_drew)); exact (Q_HO236 h0_)) (Kd.R_base ho44) hb) (fun _ h_ => by first | trivial | exact h_ | exact h_.1))
                                        have z_HO240 := fun (h0_ : b 28 = true) => (show Kd.R (Kd.int .u8) 5 w43 w.heap.size (fun _ => True) v239 y238 from by first | exact (Kd.R_elder' (by (with_reducible repeat (first | apply Kd.R_alloc | apply Kd.R_drewN | apply Kd.R_drew)); exact (Q_HO240 h0_)) (Kd.R_base ho44) hb) | exact Kd.R_mono (Kd.R_elder' (by (with_reducible repeat (first | apply Kd.R_alloc | apply Kd.R_drewN | apply Kd.R_drew)); exact (Q_HO240 h0_)) (Kd.R_base ho44) hb) (fun _ h_ => by first | trivial | exact h_ | exact h_.1))
                                        clear BK221
                                        clear HB
                                        have HO231 := n0_
                                        have BK221 := n1_
                                        have HB := n2_
                                        clear n0_ n1_ n2_
                                        clear hb ho44
                                        refine hK.out _ _ ⟨v230, v235, v239, (by rw [ha.out]; exact putSel_upk 1 hb_ rfl rfl rfl), (by (with_reducible repeat (first | refine blk_drewN ?_ _ | refine blk_drew ?_ | refine blk_alloc ?_ _)); exact BK221.out), (by repeat (first | (with_reducible first | exact HB.out | apply below_alloc | apply pw_below_drewN | apply below_drew1 | refine below_set ?_ GE221.out) | exact HB.out)), fun _ => (by (with_reducible repeat (first | apply Kd.R_alloc | apply Kd.R_drewN | apply Kd.R_drew)); exact HO231.out), z_HO236, z_HO240⟩
                                      refine steps_cons ?_ ?_
                                      · rintro b a w' ⟨v230, v235, v239, ha, Q_BK221, Q_HB, Q_HO231, Q_HO236, Q_HO240⟩ hb_ hon hoff
                                        refine ⟨_, rfl, fun K hK => ?_⟩
                                        have e64 : a.tmps[64]? = some (v230) := by rw [ha]; exact putSel_on (e := (2, 64, v230)) 1 rfl rfl (hon 2 (by kernel_rfl)) rfl
                                        replace ha := Aside0.mk ha
                                        have BK221 := Aside0.mk Q_BK221
                                        have HB := Aside0.mk Q_HB
                                        have HO231 := Aside0.mk (Q_HO231 (hon 2 (by kernel_rfl)))
                                        have hcv_ := own_string (P := Try.prog) Try.underlying37 Try.underlying5 Try.underlying9 (Kd.own_of_R HO231.out)
                                        obtain ⟨Ao3_0, co3_0, eo_⟩ := Kd.R_slice HO231.out
                                        subst eo_
                                        refine value_ (w1 := w') (v := .string (strOfNums y229)) (by rfl) rfl ?_ ?_
                                        · go_simp
                                          (try simp only [i64_w])
                                          try first | rfl | assumption | (simp only [ByteArray.size_append] at *; omega)
                                        refine hK.out _ _ ⟨.slice Ao3_0 y229.length co3_0, v235, v239, (by rw [ha.out]; exact putSel_upk 2 hb_ rfl rfl rfl), Q_BK221, Q_HB, Q_HO231, Q_HO236, Q_HO240⟩
                                      refine steps_cons ?_ ?_
                                      · rintro b a w' ⟨v230, v235, v239, ha, Q_BK221, Q_HB, Q_HO231, Q_HO236, Q_HO240⟩ hb_ hon hoff
                                        refine ⟨_, rfl, fun K hK => ?_⟩
                                        have e66 : a.tmps[66]? = some (.pointer (some ⟨gb221, 1, none⟩)) := by rw [ha]; exact (putSel_off rfl).trans rfl
                                        replace ha := Aside0.mk ha
                                        have BK221 := Aside0.mk Q_BK221
                                        have HB := Aside0.mk Q_HB
                                        have hc0_ : w'.cell? ⟨gb221, 0, none⟩ = some (.string a0_0) := (blk_cell BK221.out 0).trans rfl
                                        have hc1_ : w'.cell? ⟨gb221, 1, none⟩ = some (.int .i64 a0_1) := (blk_cell BK221.out 1).trans rfl
                                        have hc2_ : w'.cell? ⟨gb221, 2, none⟩ = some (.int .i64 a0_2) := (blk_cell BK221.out 2).trans rfl
                                        have hc3_ : w'.cell? ⟨gb221, 3, none⟩ = some (.int .i64 a0_3) := (blk_cell BK221.out 3).trans rfl
                                        have hc4_ : w'.cell? ⟨gb221, 4, none⟩ = some (.int .i64 a0_4) := (blk_cell BK221.out 4).trans rfl
                                        have hc5_ : w'.cell? ⟨gb221, 5, none⟩ = some (.int .i64 a0_5) := (blk_cell BK221.out 5).trans rfl
                                        have hc6_ : w'.cell? ⟨gb221, 6, none⟩ = some (.int .i64 a0_6) := (blk_cell BK221.out 6).trans rfl
                                        have hc7_ : w'.cell? ⟨gb221, 7, none⟩ = some (.string a0_7) := (blk_cell BK221.out 7).trans rfl
                                        refine value_ (w1 := w') (v := .int .i64 a0_1) (by rfl) rfl ?_ ?_
                                        · go_simp
                                          (try simp only [i64_w])
                                          try first | rfl | assumption | (simp only [ByteArray.size_append] at *; omega)
                                        refine hK.out _ _ ⟨v230, v235, v239, (by rw [ha.out]; exact putSel_upk 3 hb_ rfl rfl rfl), Q_BK221, Q_HB, Q_HO231, Q_HO236, Q_HO240⟩
                                      refine steps_cons ?_ ?_
                                      · rintro b a w' ⟨v230, v235, v239, ha, Q_BK221, Q_HB, Q_HO231, Q_HO236, Q_HO240⟩ hb_ hon hoff
                                        refine ⟨_, rfl, fun K hK => ?_⟩
                                        have e67 : a.tmps[67]? = some (.int .i64 a0_1) := by rw [ha]; exact putSel_on (e := (5, 67, .int .i64 a0_1)) 3 rfl rfl (hon 5 (by kernel_rfl)) rfl
                                        replace ha := Aside0.mk ha
                                        have BK221 := Aside0.mk Q_BK221
                                        have HB := Aside0.mk Q_HB
                                        refine goes_ Try.func30 (by kernel_rfl) rfl #[.int .i64 a0_1, .int .i64 4] (by rfl) rfl rfl (by first | (simp only [List.map_toArray, List.map_cons, List.map_nil, Act.eval, Array.getD_eq_getD_getElem?, Option.getD_some, e67]; done) | (simp only [List.map_toArray, List.map_cons, List.map_nil, Act.eval, Array.getD_eq_getD_getElem?, Option.getD_some, e67]; rfl)) ?_
                                        with_reducible refine (masterdiscref20_both.calls kj11 a0_1 4 t232 _ A29.out).mono ?_
                                        rintro e w43 ⟨rfl, hb⟩
                                        refine ⟨_, rfl, ?_⟩
                                        have n0_ := Aside0.mk (blk_below (g := gb221) (o := .cells #[.string a0_0, .int .i64 a0_1, .int .i64 a0_2, .int .i64 a0_3, .int .i64 a0_4, .int .i64 a0_5, .int .i64 a0_6, .string a0_7] 23 (0, 0)) (by (with_reducible repeat (first | refine blk_drewN ?_ _ | refine blk_drew ?_ | refine blk_alloc ?_ _)); exact BK221.out) hb)
                                        have n1_ := Aside0.mk (below_step (by repeat (first | (with_reducible first | exact HB.out | apply below_alloc | apply pw_below_drewN | apply below_drew1 | refine below_set ?_ GE221.out) | exact HB.out)) hb)
                                        have z_HO231 := fun (h0_ : b 2 = true) => (show Kd.R (Kd.int .u8) 5 w43 w.heap.size (fun _ => True) v230 y229 from by first | exact (Kd.R_below (by (with_reducible repeat (first | apply Kd.R_alloc | apply Kd.R_drewN | apply Kd.R_drew)); exact (Q_HO231 h0_)) hb) | exact Kd.R_mono (Kd.R_below (by (with_reducible repeat (first | apply Kd.R_alloc | apply Kd.R_drewN | apply Kd.R_drew)); exact (Q_HO231 h0_)) hb) (fun _ h_ => by first | trivial | exact h_ | exact h_.1))
                                        have z_HO236 := fun (h0_ : b 17 = true) => (show Kd.R (Kd.int .u8) 5 w43 w.heap.size (fun _ => True) v235 y234 from by first | exact (Kd.R_below (by (with_reducible repeat (first | apply Kd.R_alloc | apply Kd.R_drewN | apply Kd.R_drew)); exact (Q_HO236 h0_)) hb) | exact Kd.R_mono (Kd.R_below (by (with_reducible repeat (first | apply Kd.R_alloc | apply Kd.R_drewN | apply Kd.R_drew)); exact (Q_HO236 h0_)) hb) (fun _ h_ => by first | trivial | exact h_ | exact h_.1))
                                        have z_HO240 := fun (h0_ : b 28 = true) => (show Kd.R (Kd.int .u8) 5 w43 w.heap.size (fun _ => True) v239 y238 from by first | exact (Kd.R_below (by (with_reducible repeat (first | apply Kd.R_alloc | apply Kd.R_drewN | apply Kd.R_drew)); exact (Q_HO240 h0_)) hb) | exact Kd.R_mono (Kd.R_below (by (with_reducible repeat (first | apply Kd.R_alloc | apply Kd.R_drewN | apply Kd.R_drew)); exact (Q_HO240 h0_)) hb) (fun _ h_ => by first | trivial | exact h_ | exact h_.1))
                                        clear BK221
                                        clear HB
                                        have BK221 := n0_
                                        have HB := n1_
                                        clear n0_ n1_
                                        (try clear hb)
                                        (try clear hb2)
                                        (try clear hk)
                                        (try clear hi)
                                        refine hK.out _ _ ⟨v230, v235, v239, (by rw [ha.out]; exact putSel_upk 4 hb_ rfl rfl rfl), (by (with_reducible repeat (first | refine blk_drewN ?_ _ | refine blk_drew ?_ | refine blk_alloc ?_ _)); exact BK221.out), (by repeat (first | (with_reducible first | exact HB.out | apply below_alloc | apply pw_below_drewN | apply below_drew1 | refine below_set ?_ GE221.out) | exact HB.out)), z_HO231, z_HO236, z_HO240⟩
                                      refine steps_cons ?_ ?_
                                      · rintro b a w' ⟨v230, v235, v239, ha, Q_BK221, Q_HB, Q_HO231, Q_HO236, Q_HO240⟩ hb_ hon hoff
                                        refine ⟨_, rfl, fun K hK => ?_⟩
                                        have e65 : a.tmps[65]? = some (.string (strOfNums y229)) := by rw [ha]; exact putSel_on (e := (3, 65, .string (strOfNums y229))) 2 rfl rfl (hon 3 (by kernel_rfl)) rfl
                                        have e68 : a.tmps[68]? = some (.string t232) := by rw [ha]; exact putSel_on (e := (6, 68, .string t232)) 4 rfl rfl (hon 6 (by kernel_rfl)) rfl
                                        replace ha := Aside0.mk ha
                                        have BK221 := Aside0.mk Q_BK221
                                        have HB := Aside0.mk Q_HB
                                        have HO231 := Aside0.mk (Q_HO231 (hon 2 (by kernel_rfl)))
                                        refine value_ (w1 := w') (v := .string ((strOfNums y229) ++ t232)) (by rfl) rfl ?_ ?_
                                        · go_simp
                                          (try simp only [i64_w])
                                          try first | rfl | assumption | (simp only [ByteArray.size_append] at *; omega)
                                        refine hK.out _ _ ⟨v230, v235, v239, (by rw [ha.out]; exact putSel_upk 5 hb_ rfl rfl rfl), Q_BK221, Q_HB, Q_HO231, Q_HO236, Q_HO240⟩
                                      refine steps_cons ?_ ?_
                                      · rintro b a w' ⟨v230, v235, v239, ha, Q_BK221, Q_HB, Q_HO231, Q_HO236, Q_HO240⟩ hb_ hon hoff
                                        refine ⟨_, rfl, fun K hK => ?_⟩
                                        have e70 : a.tmps[70]? = some (.pointer (some ⟨gb221, 2, none⟩)) := by rw [ha]; exact (putSel_off rfl).trans rfl
                                        replace ha := Aside0.mk ha
                                        have BK221 := Aside0.mk Q_BK221
                                        have HB := Aside0.mk Q_HB
                                        have hc0_ : w'.cell? ⟨gb221, 0, none⟩ = some (.string a0_0) := (blk_cell BK221.out 0).trans rfl
                                        have hc1_ : w'.cell? ⟨gb221, 1, none⟩ = some (.int .i64 a0_1) := (blk_cell BK221.out 1).trans rfl
                                        have hc2_ : w'.cell? ⟨gb221, 2, none⟩ = some (.int .i64 a0_2) := (blk_cell BK221.out 2).trans rfl
                                        have hc3_ : w'.cell? ⟨gb221, 3, none⟩ = some (.int .i64 a0_3) := (blk_cell BK221.out 3).trans rfl
                                        have hc4_ : w'.cell? ⟨gb221, 4, none⟩ = some (.int .i64 a0_4) := (blk_cell BK221.out 4).trans rfl
                                        have hc5_ : w'.cell? ⟨gb221, 5, none⟩ = some (.int .i64 a0_5) := (blk_cell BK221.out 5).trans rfl
                                        have hc6_ : w'.cell? ⟨gb221, 6, none⟩ = some (.int .i64 a0_6) := (blk_cell BK221.out 6).trans rfl
                                        have hc7_ : w'.cell? ⟨gb221, 7, none⟩ = some (.string a0_7) := (blk_cell BK221.out 7).trans rfl
                                        refine value_ (w1 := w') (v := .int .i64 a0_2) (by rfl) rfl ?_ ?_
                                        · go_simp
                                          (try simp only [i64_w])
                                          try first | rfl | assumption | (simp only [ByteArray.size_append] at *; omega)
                                        refine hK.out _ _ ⟨v230, v235, v239, (by rw [ha.out]; exact putSel_upk 6 hb_ rfl rfl rfl), Q_BK221, Q_HB, Q_HO231, Q_HO236, Q_HO240⟩
                                      refine steps_cons ?_ ?_
                                      · rintro b a w' ⟨v230, v235, v239, ha, Q_BK221, Q_HB, Q_HO231, Q_HO236, Q_HO240⟩ hb_ hon hoff
                                        refine ⟨_, rfl, fun K hK => ?_⟩
                                        have e71 : a.tmps[71]? = some (.int .i64 a0_2) := by rw [ha]; exact putSel_on (e := (9, 71, .int .i64 a0_2)) 6 rfl rfl (hon 9 (by kernel_rfl)) rfl
                                        replace ha := Aside0.mk ha
                                        have BK221 := Aside0.mk Q_BK221
                                        have HB := Aside0.mk Q_HB
                                        refine goes_ Try.func30 (by kernel_rfl) rfl #[.int .i64 a0_2, .int .i64 4] (by rfl) rfl rfl (by first | (simp only [List.map_toArray, List.map_cons, List.map_nil, Act.eval, Array.getD_eq_getD_getElem?, Option.getD_some, e71]; done) | (simp only [List.map_toArray, List.map_cons, List.map_nil, Act.eval, Array.getD_eq_getD_getElem?, Option.getD_some, e71]; rfl)) ?_
                                        with_reducible refine (masterdiscref20_both.calls kj11 a0_2 4 t233 _ A31.out).mono ?_
                                        rintro e w45 ⟨rfl, hb⟩
                                        refine ⟨_, rfl, ?_⟩
                                        have n0_ := Aside0.mk (blk_below (g := gb221) (o := .cells #[.string a0_0, .int .i64 a0_1, .int .i64 a0_2, .int .i64 a0_3, .int .i64 a0_4, .int .i64 a0_5, .int .i64 a0_6, .string a0_7] 23 (0, 0)) (by (with_reducible repeat (first | refine blk_drewN ?_ _ | refine blk_drew ?_ | refine blk_alloc ?_ _)); exact BK221.out) hb)
                                        have n1_ := Aside0.mk (below_step (by repeat (first | (with_reducible first | exact HB.out | apply below_alloc | apply pw_below_drewN | apply below_drew1 | refine below_set ?_ GE221.out) | exact HB.out)) hb)
                                        have z_HO231 := fun (h0_ : b 2 = true) => (show Kd.R (Kd.int .u8) 5 w45 w.heap.size (fun _ => True) v230 y229 from by first | exact (Kd.R_below (by (with_reducible repeat (first | apply Kd.R_alloc | apply Kd.R_drewN | apply Kd.R_drew)); exact (Q_HO231 h0_)) hb) | exact Kd.R_mono (Kd.R_below (by (with_reducible repeat (first | apply Kd.R_alloc | apply Kd.R_drewN | apply Kd.R_drew)); exact (Q_HO231 h0_)) hb) (fun _ h_ => by first | trivial | exact h_ | exact h_.1))
                                        have z_HO236 := fun (h0_ : b 17 = true) => (show Kd.R (Kd.int .u8) 5 w45 w.heap.size (fun _ => True) v235 y234 from by first | exact (Kd.R_below (by (with_reducible repeat (first | apply Kd.R_alloc | apply Kd.R_drewN | apply Kd.R_drew)); exact (Q_HO236 h0_)) hb) | exact Kd.R_mono (Kd.R_below (by (with_reducible repeat (first | apply Kd.R_alloc | apply Kd.R_drewN | apply Kd.R_drew)); exact (Q_HO236 h0_)) hb) (fun _ h_ => by first | trivial | exact h_ | exact h_.1))
                                        have z_HO240 := fun (h0_ : b 28 = true) => (show Kd.R (Kd.int .u8) 5 w45 w.heap.size (fun _ => True) v239 y238 from by first | exact (Kd.R_below (by (with_reducible repeat (first | apply Kd.R_alloc | apply Kd.R_drewN | apply Kd.R_drew)); exact (Q_HO240 h0_)) hb) | exact Kd.R_mono (Kd.R_below (by (with_reducible repeat (first | apply Kd.R_alloc | apply Kd.R_drewN | apply Kd.R_drew)); exact (Q_HO240 h0_)) hb) (fun _ h_ => by first | trivial | exact h_ | exact h_.1))
                                        clear BK221
                                        clear HB
                                        have BK221 := n0_
                                        have HB := n1_
                                        clear n0_ n1_
                                        (try clear hb)
                                        (try clear hb2)
                                        (try clear hk)
                                        (try clear hi)
                                        refine hK.out _ _ ⟨v230, v235, v239, (by rw [ha.out]; exact putSel_upk 7 hb_ rfl rfl rfl), (by (with_reducible repeat (first | refine blk_drewN ?_ _ | refine blk_drew ?_ | refine blk_alloc ?_ _)); exact BK221.out), (by repeat (first | (with_reducible first | exact HB.out | apply below_alloc | apply pw_below_drewN | apply below_drew1 | refine below_set ?_ GE221.out) | exact HB.out)), z_HO231, z_HO236, z_HO240⟩
                                      refine steps_cons ?_ ?_
                                      · rintro b a w' ⟨v230, v235, v239, ha, Q_BK221, Q_HB, Q_HO231, Q_HO236, Q_HO240⟩ hb_ hon hoff
                                        refine ⟨_, rfl, fun K hK => ?_⟩
                                        have e69 : a.tmps[69]? = some (.string ((strOfNums y229) ++ t232)) := by rw [ha]; exact putSel_on (e := (7, 69, .string ((strOfNums y229) ++ t232))) 5 rfl rfl (hon 7 (by kernel_rfl)) rfl
                                        have e72 : a.tmps[72]? = some (.string t233) := by rw [ha]; exact putSel_on (e := (10, 72, .string t233)) 7 rfl rfl (hon 10 (by kernel_rfl)) rfl
                                        replace ha := Aside0.mk ha
                                        have BK221 := Aside0.mk Q_BK221
                                        have HB := Aside0.mk Q_HB
                                        have HO231 := Aside0.mk (Q_HO231 (hon 2 (by kernel_rfl)))
                                        refine value_ (w1 := w') (v := .string (((strOfNums y229) ++ t232) ++ t233)) (by rfl) rfl ?_ ?_
                                        · go_simp
                                          (try simp only [i64_w])
                                          try first | rfl | assumption | (simp only [ByteArray.size_append] at *; omega)
                                        refine hK.out _ _ ⟨v230, v235, v239, (by rw [ha.out]; exact putSel_upk 8 hb_ rfl rfl rfl), Q_BK221, Q_HB, Q_HO231, Q_HO236, Q_HO240⟩
                                      refine steps_cons ?_ ?_
                                      · rintro b a w' ⟨v230, v235, v239, ha, Q_BK221, Q_HB, Q_HO231, Q_HO236, Q_HO240⟩ hb_ hon hoff
                                        refine ⟨_, rfl, fun K hK => ?_⟩
                                        have e73 : a.tmps[73]? = some (.string (((strOfNums y229) ++ t232) ++ t233)) := by rw [ha]; exact putSel_on (e := (11, 73, .string (((strOfNums y229) ++ t232) ++ t233))) 8 rfl rfl (hon 11 (by kernel_rfl)) rfl
                                        have e74 : a.tmps[74]? = some (.string t223) := by rw [ha]; exact (putSel_off rfl).trans rfl
                                        replace ha := Aside0.mk ha
                                        have BK221 := Aside0.mk Q_BK221
                                        have HB := Aside0.mk Q_HB
                                        have HO231 := Aside0.mk (Q_HO231 (hon 2 (by kernel_rfl)))
                                        refine value_ (w1 := w') (v := .string ((((strOfNums y229) ++ t232) ++ t233) ++ t223)) (by rfl) rfl ?_ ?_
                                        · go_simp
                                          (try simp only [i64_w])
                                          try first | rfl | assumption | (simp only [ByteArray.size_append] at *; omega)
                                        refine hK.out _ _ ⟨v230, v235, v239, (by rw [ha.out]; exact putSel_upk 9 hb_ rfl rfl rfl), Q_BK221, Q_HB, Q_HO231, Q_HO236, Q_HO240⟩
                                      refine steps_cons ?_ ?_
                                      · rintro b a w' ⟨v230, v235, v239, ha, Q_BK221, Q_HB, Q_HO231, Q_HO236, Q_HO240⟩ hb_ hon hoff
                                        refine ⟨_, rfl, fun K hK => ?_⟩
                                        have e76 : a.tmps[76]? = some (.pointer (some ⟨gb221, 5, none⟩)) := by rw [ha]; exact (putSel_off rfl).trans rfl
                                        replace ha := Aside0.mk ha
                                        have BK221 := Aside0.mk Q_BK221
                                        have HB := Aside0.mk Q_HB
                                        have hc0_ : w'.cell? ⟨gb221, 0, none⟩ = some (.string a0_0) := (blk_cell BK221.out 0).trans rfl
                                        have hc1_ : w'.cell? ⟨gb221, 1, none⟩ = some (.int .i64 a0_1) := (blk_cell BK221.out 1).trans rfl
                                        have hc2_ : w'.cell? ⟨gb221, 2, none⟩ = some (.int .i64 a0_2) := (blk_cell BK221.out 2).trans rfl
                                        have hc3_ : w'.cell? ⟨gb221, 3, none⟩ = some (.int .i64 a0_3) := (blk_cell BK221.out 3).trans rfl
                                        have hc4_ : w'.cell? ⟨gb221, 4, none⟩ = some (.int .i64 a0_4) := (blk_cell BK221.out 4).trans rfl
                                        have hc5_ : w'.cell? ⟨gb221, 5, none⟩ = some (.int .i64 a0_5) := (blk_cell BK221.out 5).trans rfl
                                        have hc6_ : w'.cell? ⟨gb221, 6, none⟩ = some (.int .i64 a0_6) := (blk_cell BK221.out 6).trans rfl
                                        have hc7_ : w'.cell? ⟨gb221, 7, none⟩ = some (.string a0_7) := (blk_cell BK221.out 7).trans rfl
                                        refine value_ (w1 := w') (v := .int .i64 a0_5) (by rfl) rfl ?_ ?_
                                        · go_simp
                                          (try simp only [i64_w])
                                          try first | rfl | assumption | (simp only [ByteArray.size_append] at *; omega)
                                        refine hK.out _ _ ⟨v230, v235, v239, (by rw [ha.out]; exact putSel_upk 10 hb_ rfl rfl rfl), Q_BK221, Q_HB, Q_HO231, fun h0_ => absurd ((hoff 17 (by kernel_rfl)).symm.trans h0_) (by decide), Q_HO240⟩
                                      refine steps_cons ?_ ?_
                                      · rintro b a w' ⟨v230, v235, v239, ha, Q_BK221, Q_HB, Q_HO231, Q_HO236, Q_HO240⟩ hb_ hon hoff
                                        refine ⟨_, rfl, fun K hK => ?_⟩
                                        have e77 : a.tmps[77]? = some (.int .i64 a0_5) := by rw [ha]; exact putSel_on (e := (15, 77, .int .i64 a0_5)) 10 rfl rfl (hon 15 (by kernel_rfl)) rfl
                                        replace ha := Aside0.mk ha
                                        have BK221 := Aside0.mk Q_BK221
                                        have HB := Aside0.mk Q_HB
                                        refine value_ (w1 := w') (v := .int .u8 ((a0_5) % 256)) (by rfl) rfl ?_ ?_
                                        · go_simp
                                          (try simp only [i64_w])
                                          try first | rfl | assumption | (simp only [ByteArray.size_append] at *; omega)
                                        refine hK.out _ _ ⟨v230, v235, v239, (by rw [ha.out]; exact putSel_upk 11 hb_ rfl rfl rfl), Q_BK221, Q_HB, Q_HO231, fun h0_ => absurd ((hoff 17 (by kernel_rfl)).symm.trans h0_) (by decide), Q_HO240⟩
                                      refine steps_cons ?_ ?_
                                      · rintro b a w' ⟨v230, v235, v239, ha, Q_BK221, Q_HB, Q_HO231, Q_HO236, Q_HO240⟩ hb_ hon hoff
                                        refine ⟨_, rfl, fun K hK => ?_⟩
                                        have e78 : a.tmps[78]? = some (.int .u8 ((a0_5) % 256)) := by rw [ha]; exact putSel_on (e := (16, 78, .int .u8 ((a0_5) % 256))) 11 rfl rfl (hon 16 (by kernel_rfl)) rfl
                                        replace ha := Aside0.mk ha
                                        have BK221 := Aside0.mk Q_BK221
                                        have HB := Aside0.mk Q_HB
                                        refine Kd.R_lit_step (Kd.int .u8) _ 5 ?hg (N := 79) ?hd (xs := ([(a0_5) % 256, 0, 0] : List Int)) (inner := [.int .u8 ((a0_5) % 256), .int .u8 0, .int .u8 0]) (ok := fun _ => True) (okp := fun _ => True) ?hr ?hp (fun _ hk => hk) trivial (Below.refl _ _) (Nat.le_refl _) (by simp) ?_; (case hd => rfl); (case hg => rfl); (case hr => first | (go_simp; done) | (go_simp; rfl)); (case hp => exact (Reps.one (show Kd.M (Kd.int .u8) _ _ _ ((a0_5) % 256) [.int .u8 ((a0_5) % 256)] from rfl) (Reps.one (show Kd.M (Kd.int .u8) _ _ _ 0 [.int .u8 0] from rfl) (Reps.one (show Kd.M (Kd.int .u8) _ _ _ 0 [.int .u8 0] from rfl) (Reps.none _ _)))))
                                        intro v235 w43 ho44 hb hg_ hnew_
                                        clear hg_ hnew_
                                        (first | rw [← Ny234.out] at ho44 | (simp only [Int.reduceToNat] at ho44; rw [← Ny234.out] at ho44))
                                        have n0_ := Aside0.mk (Kd.R_lower ho44 (below_size (by repeat (first | (with_reducible first | exact HB.out | apply below_alloc | apply pw_below_drewN | apply below_drew1 | refine below_set ?_ GE221.out) | exact HB.out))))
                                        have n1_ := Aside0.mk (blk_below (g := gb221) (o := .cells #[.string a0_0, .int .i64 a0_1, .int .i64 a0_2, .int .i64 a0_3, .int .i64 a0_4, .int .i64 a0_5, .int .i64 a0_6, .string a0_7] 23 (0, 0)) (by (with_reducible repeat (first | refine blk_drewN ?_ _ | refine blk_drew ?_ | refine blk_alloc ?_ _)); exact BK221.out) hb)
                                        have n2_ := Aside0.mk (below_step (by repeat (first | (with_reducible first | exact HB.out | apply below_alloc | apply pw_below_drewN | apply below_drew1 | refine below_set ?_ GE221.out) | exact HB.out)) hb)
                                        have z_HO231 := fun (h0_ : b 2 = true) => (show Kd.R (Kd.int .u8) 5 w43 w.heap.size (fun _ => True) v230 y229 from by first | exact (Kd.R_elder' (by (with_reducible repeat (first | apply Kd.R_alloc | apply Kd.R_drewN | apply Kd.R_drew)); exact (Q_HO231 h0_)) (Kd.R_base ho44) hb) | exact Kd.R_mono (Kd.R_elder' (by (with_reducible repeat (first | apply Kd.R_alloc | apply Kd.R_drewN | apply Kd.R_drew)); exact (Q_HO231 h0_)) (Kd.R_base ho44) hb) (fun _ h_ => by first | trivial | exact h_ | exact h_.1))
                                        have z_HO240 := fun (h0_ : b 28 = true) => (show Kd.R (Kd.int .u8) 5 w43 w.heap.size (fun _ => True) v239 y238 from by first | exact (Kd.R_elder' (by (with_reducible repeat (first | apply Kd.R_alloc | apply Kd.R_drewN | apply Kd.R_drew)); exact (Q_HO240 h0_)) (Kd.R_base ho44) hb) | exact Kd.R_mono (Kd.R_elder' (by (with_reducible repeat (first | apply Kd.R_alloc | apply Kd.R_drewN | apply Kd.R_drew)); exact (Q_HO240 h0_)) (Kd.R_base ho44) hb) (fun _ h_ => by first | trivial | exact h_ | exact h_.1))
                                        clear BK221
                                        clear HB
                                        have HO236 := n0_
                                        have BK221 := n1_
                                        have HB := n2_
                                        clear n0_ n1_ n2_
                                        clear hb ho44
                                        refine hK.out _ _ ⟨v230, v235, v239, (by rw [ha.out]; exact putSel_upk 12 hb_ rfl rfl rfl), (by (with_reducible repeat (first | refine blk_drewN ?_ _ | refine blk_drew ?_ | refine blk_alloc ?_ _)); exact BK221.out), (by repeat (first | (with_reducible first | exact HB.out | apply below_alloc | apply pw_below_drewN | apply below_drew1 | refine below_set ?_ GE221.out) | exact HB.out)), z_HO231, fun _ => (by (with_reducible repeat (first | apply Kd.R_alloc | apply Kd.R_drewN | apply Kd.R_drew)); exact HO236.out), z_HO240⟩
                                      refine steps_cons ?_ ?_
                                      · rintro b a w' ⟨v230, v235, v239, ha, Q_BK221, Q_HB, Q_HO231, Q_HO236, Q_HO240⟩ hb_ hon hoff
                                        refine ⟨_, rfl, fun K hK => ?_⟩
                                        have e79 : a.tmps[79]? = some (v235) := by rw [ha]; exact putSel_on (e := (17, 79, v235)) 12 rfl rfl (hon 17 (by kernel_rfl)) rfl
                                        replace ha := Aside0.mk ha
                                        have BK221 := Aside0.mk Q_BK221
                                        have HB := Aside0.mk Q_HB
                                        have HO236 := Aside0.mk (Q_HO236 (hon 17 (by kernel_rfl)))
                                        have hcv_ := own_string (P := Try.prog) Try.underlying37 Try.underlying5 Try.underlying9 (Kd.own_of_R HO236.out)
                                        obtain ⟨Ao18_0, co18_0, eo_⟩ := Kd.R_slice HO236.out
                                        subst eo_
                                        refine value_ (w1 := w') (v := .string (strOfNums y234)) (by rfl) rfl ?_ ?_
                                        · go_simp
                                          (try simp only [i64_w])
                                          try first | rfl | assumption | (simp only [ByteArray.size_append] at *; omega)
                                        refine hK.out _ _ ⟨v230, .slice Ao18_0 y234.length co18_0, v239, (by rw [ha.out]; exact putSel_upk 13 hb_ rfl rfl rfl), Q_BK221, Q_HB, Q_HO231, Q_HO236, Q_HO240⟩
                                      refine steps_cons ?_ ?_
                                      · rintro b a w' ⟨v230, v235, v239, ha, Q_BK221, Q_HB, Q_HO231, Q_HO236, Q_HO240⟩ hb_ hon hoff
                                        refine ⟨_, rfl, fun K hK => ?_⟩
                                        have e75 : a.tmps[75]? = some (.string ((((strOfNums y229) ++ t232) ++ t233) ++ t223)) := by rw [ha]; exact putSel_on (e := (13, 75, .string ((((strOfNums y229) ++ t232) ++ t233) ++ t223))) 9 rfl rfl (hon 13 (by kernel_rfl)) rfl
                                        have e80 : a.tmps[80]? = some (.string (strOfNums y234)) := by rw [ha]; exact putSel_on (e := (18, 80, .string (strOfNums y234))) 13 rfl rfl (hon 18 (by kernel_rfl)) rfl
                                        replace ha := Aside0.mk ha
                                        have BK221 := Aside0.mk Q_BK221
                                        have HB := Aside0.mk Q_HB
                                        have HO231 := Aside0.mk (Q_HO231 (hon 2 (by kernel_rfl)))
                                        have HO236 := Aside0.mk (Q_HO236 (hon 17 (by kernel_rfl)))
                                        refine value_ (w1 := w') (v := .string (((((strOfNums y229) ++ t232) ++ t233) ++ t223) ++ (strOfNums y234))) (by rfl) rfl ?_ ?_
                                        · go_simp
                                          (try simp only [i64_w])
                                          try first | rfl | assumption | (simp only [ByteArray.size_append] at *; omega)
                                        refine hK.out _ _ ⟨v230, v235, v239, (by rw [ha.out]; exact putSel_upk 14 hb_ rfl rfl rfl), Q_BK221, Q_HB, Q_HO231, Q_HO236, Q_HO240⟩
                                      refine steps_cons ?_ ?_
                                      · rintro b a w' ⟨v230, v235, v239, ha, Q_BK221, Q_HB, Q_HO231, Q_HO236, Q_HO240⟩ hb_ hon hoff
                                        refine ⟨_, rfl, fun K hK => ?_⟩
                                        have e82 : a.tmps[82]? = some (.pointer (some ⟨gb221, 6, none⟩)) := by rw [ha]; exact (putSel_off rfl).trans rfl
                                        replace ha := Aside0.mk ha
                                        have BK221 := Aside0.mk Q_BK221
                                        have HB := Aside0.mk Q_HB
                                        have hc0_ : w'.cell? ⟨gb221, 0, none⟩ = some (.string a0_0) := (blk_cell BK221.out 0).trans rfl
                                        have hc1_ : w'.cell? ⟨gb221, 1, none⟩ = some (.int .i64 a0_1) := (blk_cell BK221.out 1).trans rfl
                                        have hc2_ : w'.cell? ⟨gb221, 2, none⟩ = some (.int .i64 a0_2) := (blk_cell BK221.out 2).trans rfl
                                        have hc3_ : w'.cell? ⟨gb221, 3, none⟩ = some (.int .i64 a0_3) := (blk_cell BK221.out 3).trans rfl
                                        have hc4_ : w'.cell? ⟨gb221, 4, none⟩ = some (.int .i64 a0_4) := (blk_cell BK221.out 4).trans rfl
                                        have hc5_ : w'.cell? ⟨gb221, 5, none⟩ = some (.int .i64 a0_5) := (blk_cell BK221.out 5).trans rfl
                                        have hc6_ : w'.cell? ⟨gb221, 6, none⟩ = some (.int .i64 a0_6) := (blk_cell BK221.out 6).trans rfl
                                        have hc7_ : w'.cell? ⟨gb221, 7, none⟩ = some (.string a0_7) := (blk_cell BK221.out 7).trans rfl
                                        refine value_ (w1 := w') (v := .int .i64 a0_6) (by rfl) rfl ?_ ?_
                                        · go_simp
                                          (try simp only [i64_w])
                                          try first | rfl | assumption | (simp only [ByteArray.size_append] at *; omega)
                                        refine hK.out _ _ ⟨v230, v235, v239, (by rw [ha.out]; exact putSel_upk 15 hb_ rfl rfl rfl), Q_BK221, Q_HB, Q_HO231, Q_HO236, Q_HO240⟩
                                      refine steps_cons ?_ ?_
                                      · rintro b a w' ⟨v230, v235, v239, ha, Q_BK221, Q_HB, Q_HO231, Q_HO236, Q_HO240⟩ hb_ hon hoff
                                        refine ⟨_, rfl, fun K hK => ?_⟩
                                        have e83 : a.tmps[83]? = some (.int .i64 a0_6) := by rw [ha]; exact putSel_on (e := (21, 83, .int .i64 a0_6)) 15 rfl rfl (hon 21 (by kernel_rfl)) rfl
                                        replace ha := Aside0.mk ha
                                        have BK221 := Aside0.mk Q_BK221
                                        have HB := Aside0.mk Q_HB
                                        refine goes_ Try.func30 (by kernel_rfl) rfl #[.int .i64 a0_6, .int .i64 2] (by rfl) rfl rfl (by first | (simp only [List.map_toArray, List.map_cons, List.map_nil, Act.eval, Array.getD_eq_getD_getElem?, Option.getD_some, e83]; done) | (simp only [List.map_toArray, List.map_cons, List.map_nil, Act.eval, Array.getD_eq_getD_getElem?, Option.getD_some, e83]; rfl)) ?_
                                        with_reducible refine (masterdiscref20_both.calls kj11 a0_6 2 t237 _ A35.out).mono ?_
                                        rintro e w46 ⟨rfl, hb⟩
                                        refine ⟨_, rfl, ?_⟩
                                        have n0_ := Aside0.mk (blk_below (g := gb221) (o := .cells #[.string a0_0, .int .i64 a0_1, .int .i64 a0_2, .int .i64 a0_3, .int .i64 a0_4, .int .i64 a0_5, .int .i64 a0_6, .string a0_7] 23 (0, 0)) (by (with_reducible repeat (first | refine blk_drewN ?_ _ | refine blk_drew ?_ | refine blk_alloc ?_ _)); exact BK221.out) hb)
                                        have n1_ := Aside0.mk (below_step (by repeat (first | (with_reducible first | exact HB.out | apply below_alloc | apply pw_below_drewN | apply below_drew1 | refine below_set ?_ GE221.out) | exact HB.out)) hb)
                                        have z_HO231 := fun (h0_ : b 2 = true) => (show Kd.R (Kd.int .u8) 5 w46 w.heap.size (fun _ => True) v230 y229 from by first | exact (Kd.R_below (by (with_reducible repeat (first | apply Kd.R_alloc | apply Kd.R_drewN | apply Kd.R_drew)); exact (Q_HO231 h0_)) hb) | exact Kd.R_mono (Kd.R_below (by (with_reducible repeat (first | apply Kd.R_alloc | apply Kd.R_drewN | apply Kd.R_drew)); exact (Q_HO231 h0_)) hb) (fun _ h_ => by first | trivial | exact h_ | exact h_.1))
                                        have z_HO236 := fun (h0_ : b 17 = true) => (show Kd.R (Kd.int .u8) 5 w46 w.heap.size (fun _ => True) v235 y234 from by first | exact (Kd.R_below (by (with_reducible repeat (first | apply Kd.R_alloc | apply Kd.R_drewN | apply Kd.R_drew)); exact (Q_HO236 h0_)) hb) | exact Kd.R_mono (Kd.R_below (by (with_reducible repeat (first | apply Kd.R_alloc | apply Kd.R_drewN | apply Kd.R_drew)); exact (Q_HO236 h0_)) hb) (fun _ h_ => by first | trivial | exact h_ | exact h_.1))
                                        have z_HO240 := fun (h0_ : b 28 = true) => (show Kd.R (Kd.int .u8) 5 w46 w.heap.size (fun _ => True) v239 y238 from by first | exact (Kd.R_below (by (with_reducible repeat (first | apply Kd.R_alloc | apply Kd.R_drewN | apply Kd.R_drew)); exact (Q_HO240 h0_)) hb) | exact Kd.R_mono (Kd.R_below (by (with_reducible repeat (first | apply Kd.R_alloc | apply Kd.R_drewN | apply Kd.R_drew)); exact (Q_HO240 h0_)) hb) (fun _ h_ => by first | trivial | exact h_ | exact h_.1))
                                        clear BK221
                                        clear HB
                                        have BK221 := n0_
                                        have HB := n1_
                                        clear n0_ n1_
                                        (try clear hb)
                                        (try clear hb2)
                                        (try clear hk)
                                        (try clear hi)
                                        refine hK.out _ _ ⟨v230, v235, v239, (by rw [ha.out]; exact putSel_upk 16 hb_ rfl rfl rfl), (by (with_reducible repeat (first | refine blk_drewN ?_ _ | refine blk_drew ?_ | refine blk_alloc ?_ _)); exact BK221.out), (by repeat (first | (with_reducible first | exact HB.out | apply below_alloc | apply pw_below_drewN | apply below_drew1 | refine below_set ?_ GE221.out) | exact HB.out)), z_HO231, z_HO236, z_HO240⟩
                                      refine steps_cons ?_ ?_
                                      · rintro b a w' ⟨v230, v235, v239, ha, Q_BK221, Q_HB, Q_HO231, Q_HO236, Q_HO240⟩ hb_ hon hoff
                                        refine ⟨_, rfl, fun K hK => ?_⟩
                                        have e81 : a.tmps[81]? = some (.string (((((strOfNums y229) ++ t232) ++ t233) ++ t223) ++ (strOfNums y234))) := by rw [ha]; exact putSel_on (e := (19, 81, .string (((((strOfNums y229) ++ t232) ++ t233) ++ t223) ++ (strOfNums y234)))) 14 rfl rfl (hon 19 (by kernel_rfl)) rfl
                                        have e84 : a.tmps[84]? = some (.string t237) := by rw [ha]; exact putSel_on (e := (22, 84, .string t237)) 16 rfl rfl (hon 22 (by kernel_rfl)) rfl
                                        replace ha := Aside0.mk ha
                                        have BK221 := Aside0.mk Q_BK221
                                        have HB := Aside0.mk Q_HB
                                        have HO231 := Aside0.mk (Q_HO231 (hon 2 (by kernel_rfl)))
                                        have HO236 := Aside0.mk (Q_HO236 (hon 17 (by kernel_rfl)))
                                        refine value_ (w1 := w') (v := .string ((((((strOfNums y229) ++ t232) ++ t233) ++ t223) ++ (strOfNums y234)) ++ t237)) (by rfl) rfl ?_ ?_
                                        · go_simp
                                          (try simp only [i64_w])
                                          try first | rfl | assumption | (simp only [ByteArray.size_append] at *; omega)
                                        refine hK.out _ _ ⟨v230, v235, v239, (by rw [ha.out]; exact putSel_upk 17 hb_ rfl rfl rfl), Q_BK221, Q_HB, Q_HO231, Q_HO236, Q_HO240⟩
                                      refine steps_cons ?_ ?_
                                      · rintro b a w' ⟨v230, v235, v239, ha, Q_BK221, Q_HB, Q_HO231, Q_HO236, Q_HO240⟩ hb_ hon hoff
                                        refine ⟨_, rfl, fun K hK => ?_⟩
                                        have e86 : a.tmps[86]? = some (.pointer (some ⟨gb221, 0, none⟩)) := by rw [ha]; exact (putSel_off rfl).trans rfl
                                        replace ha := Aside0.mk ha
                                        have BK221 := Aside0.mk Q_BK221
                                        have HB := Aside0.mk Q_HB
                                        have hc0_ : w'.cell? ⟨gb221, 0, none⟩ = some (.string a0_0) := (blk_cell BK221.out 0).trans rfl
                                        have hc1_ : w'.cell? ⟨gb221, 1, none⟩ = some (.int .i64 a0_1) := (blk_cell BK221.out 1).trans rfl
                                        have hc2_ : w'.cell? ⟨gb221, 2, none⟩ = some (.int .i64 a0_2) := (blk_cell BK221.out 2).trans rfl
                                        have hc3_ : w'.cell? ⟨gb221, 3, none⟩ = some (.int .i64 a0_3) := (blk_cell BK221.out 3).trans rfl
                                        have hc4_ : w'.cell? ⟨gb221, 4, none⟩ = some (.int .i64 a0_4) := (blk_cell BK221.out 4).trans rfl
                                        have hc5_ : w'.cell? ⟨gb221, 5, none⟩ = some (.int .i64 a0_5) := (blk_cell BK221.out 5).trans rfl
                                        have hc6_ : w'.cell? ⟨gb221, 6, none⟩ = some (.int .i64 a0_6) := (blk_cell BK221.out 6).trans rfl
                                        have hc7_ : w'.cell? ⟨gb221, 7, none⟩ = some (.string a0_7) := (blk_cell BK221.out 7).trans rfl
                                        refine value_ (w1 := w') (v := .string a0_0) (by rfl) rfl ?_ ?_
                                        · go_simp
                                          (try simp only [i64_w])
                                          try first | rfl | assumption | (simp only [ByteArray.size_append] at *; omega)
                                        refine hK.out _ _ ⟨v230, v235, v239, (by rw [ha.out]; exact putSel_upk 18 hb_ rfl rfl rfl), Q_BK221, Q_HB, Q_HO231, Q_HO236, fun h0_ => absurd ((hoff 28 (by kernel_rfl)).symm.trans h0_) (by decide)⟩
                                      refine steps_cons ?_ ?_
                                      · rintro b a w' ⟨v230, v235, v239, ha, Q_BK221, Q_HB, Q_HO231, Q_HO236, Q_HO240⟩ hb_ hon hoff
                                        refine ⟨_, rfl, fun K hK => ?_⟩
                                        have e87 : a.tmps[87]? = some (.string a0_0) := by rw [ha]; exact putSel_on (e := (25, 87, .string a0_0)) 18 rfl rfl (hon 25 (by kernel_rfl)) rfl
                                        replace ha := Aside0.mk ha
                                        have BK221 := Aside0.mk Q_BK221
                                        have HB := Aside0.mk Q_HB
                                        refine value_ (w1 := w') (v := .int .i64 (a0_0.size : Int)) (by rfl) rfl ?_ ?_
                                        · go_simp
                                          (try simp only [i64_w])
                                          try first | rfl | assumption | (simp only [ByteArray.size_append] at *; omega)
                                        refine hK.out _ _ ⟨v230, v235, v239, (by rw [ha.out]; exact putSel_upk 19 hb_ rfl rfl rfl), Q_BK221, Q_HB, Q_HO231, Q_HO236, fun h0_ => absurd ((hoff 28 (by kernel_rfl)).symm.trans h0_) (by decide)⟩
                                      refine steps_cons ?_ ?_
                                      · rintro b a w' ⟨v230, v235, v239, ha, Q_BK221, Q_HB, Q_HO231, Q_HO236, Q_HO240⟩ hb_ hon hoff
                                        refine ⟨_, rfl, fun K hK => ?_⟩
                                        have e88 : a.tmps[88]? = some (.int .i64 (a0_0.size : Int)) := by rw [ha]; exact putSel_on (e := (26, 88, .int .i64 (a0_0.size : Int))) 19 rfl rfl (hon 26 (by kernel_rfl)) rfl
                                        replace ha := Aside0.mk ha
                                        have BK221 := Aside0.mk Q_BK221
                                        have HB := Aside0.mk Q_HB
                                        refine value_ (w1 := w') (v := .int .u8 (((a0_0.size : Int)) % 256)) (by rfl) rfl ?_ ?_
                                        · go_simp
                                          (try simp only [i64_w])
                                          try first | rfl | assumption | (simp only [ByteArray.size_append] at *; omega)
                                        refine hK.out _ _ ⟨v230, v235, v239, (by rw [ha.out]; exact putSel_upk 20 hb_ rfl rfl rfl), Q_BK221, Q_HB, Q_HO231, Q_HO236, fun h0_ => absurd ((hoff 28 (by kernel_rfl)).symm.trans h0_) (by decide)⟩
                                      refine steps_cons ?_ ?_
                                      · rintro b a w' ⟨v230, v235, v239, ha, Q_BK221, Q_HB, Q_HO231, Q_HO236, Q_HO240⟩ hb_ hon hoff
                                        refine ⟨_, rfl, fun K hK => ?_⟩
                                        have e89 : a.tmps[89]? = some (.int .u8 (((a0_0.size : Int)) % 256)) := by rw [ha]; exact putSel_on (e := (27, 89, .int .u8 (((a0_0.size : Int)) % 256))) 20 rfl rfl (hon 27 (by kernel_rfl)) rfl
                                        replace ha := Aside0.mk ha
                                        have BK221 := Aside0.mk Q_BK221
                                        have HB := Aside0.mk Q_HB
                                        refine Kd.R_lit_step (Kd.int .u8) _ 5 ?hg (N := 90) ?hd (xs := ([((a0_0.size : Int)) % 256] : List Int)) (inner := [.int .u8 (((a0_0.size : Int)) % 256)]) (ok := fun _ => True) (okp := fun _ => True) ?hr ?hp (fun _ hk => hk) trivial (Below.refl _ _) (Nat.le_refl _) (by simp) ?_; (case hd => rfl); (case hg => rfl); (case hr => first | (go_simp; done) | (go_simp; rfl)); (case hp => exact (Reps.one (show Kd.M (Kd.int .u8) _ _ _ (((a0_0.size : Int)) % 256) [.int .u8 (((a0_0.size : Int)) % 256)] from rfl) (Reps.none _ _)))
                                        intro v239 w43 ho44 hb hg_ hnew_
                                        clear hg_ hnew_
                                        (first | rw [← Ny238.out] at ho44 | (simp only [Int.reduceToNat] at ho44; rw [← Ny238.out] at ho44))
                                        have n0_ := Aside0.mk (Kd.R_lower ho44 (below_size (by repeat (first | (with_reducible first | exact HB.out | apply below_alloc | apply pw_below_drewN | apply below_drew1 | refine below_set ?_ GE221.out) | exact HB.out))))
                                        have n1_ := Aside0.mk (blk_below (g := gb221) (o := .cells #[.string a0_0, .int .i64 a0_1, .int .i64 a0_2, .int .i64 a0_3, .int .i64 a0_4, .int .i64 a0_5, .int .i64 a0_6, .string a0_7] 23 (0, 0)) (by (with_reducible repeat (first | refine blk_drewN ?_ _ | refine blk_drew ?_ | refine blk_alloc ?_ _)); exact BK221.out) hb)
                                        have n2_ := Aside0.mk (below_step (by repeat (first | (with_reducible first | exact HB.out | apply below_alloc | apply pw_below_drewN | apply below_drew1 | refine below_set ?_ GE221.out) | exact HB.out)) hb)
                                        have z_HO231 := fun (h0_ : b 2 = true) => (show Kd.R (Kd.int .u8) 5 w43 w.heap.size (fun _ => True) v230 y229 from by first | exact (Kd.R_elder' (by (with_reducible repeat (first | apply Kd.R_alloc | apply Kd.R_drewN | apply Kd.R_drew)); exact (Q_HO231 h0_)) (Kd.R_base ho44) hb) | exact Kd.R_mono (Kd.R_elder' (by (with_reducible repeat (first | apply Kd.R_alloc | apply Kd.R_drewN | apply Kd.R_drew)); exact (Q_HO231 h0_)) (Kd.R_base ho44) hb) (fun _ h_ => by first | trivial | exact h_ | exact h_.1))
                                        have z_HO236 := fun (h0_ : b 17 = true) => (show Kd.R (Kd.int .u8) 5 w43 w.heap.size (fun _ => True) v235 y234 from by first | exact (Kd.R_elder' (by (with_reducible repeat (first | apply Kd.R_alloc | apply Kd.R_drewN | apply Kd.R_drew)); exact (Q_HO236 h0_)) (Kd.R_base ho44) hb) | exact Kd.R_mono (Kd.R_elder' (by (with_reducible repeat (first | apply Kd.R_alloc | apply Kd.R_drewN | apply Kd.R_drew)); exact (Q_HO236 h0_)) (Kd.R_base ho44) hb) (fun _ h_ => by first | trivial | exact h_ | exact h_.1))
                                        clear BK221
                                        clear HB
                                        have HO240 := n0_
                                        have BK221 := n1_
                                        have HB := n2_
                                        clear n0_ n1_ n2_
                                        clear hb ho44
                                        refine hK.out _ _ ⟨v230, v235, v239, (by rw [ha.out]; exact putSel_upk 21 hb_ rfl rfl rfl), (by (with_reducible repeat (first | refine blk_drewN ?_ _ | refine blk_drew ?_ | refine blk_alloc ?_ _)); exact BK221.out), (by repeat (first | (with_reducible first | exact HB.out | apply below_alloc | apply pw_below_drewN | apply below_drew1 | refine below_set ?_ GE221.out) | exact HB.out)), z_HO231, z_HO236, fun _ => (by (with_reducible repeat (first | apply Kd.R_alloc | apply Kd.R_drewN | apply Kd.R_drew)); exact HO240.out)⟩
                                      refine steps_cons ?_ ?_
                                      · rintro b a w' ⟨v230, v235, v239, ha, Q_BK221, Q_HB, Q_HO231, Q_HO236, Q_HO240⟩ hb_ hon hoff
                                        refine ⟨_, rfl, fun K hK => ?_⟩
                                        have e90 : a.tmps[90]? = some (v239) := by rw [ha]; exact putSel_on (e := (28, 90, v239)) 21 rfl rfl (hon 28 (by kernel_rfl)) rfl
                                        replace ha := Aside0.mk ha
                                        have BK221 := Aside0.mk Q_BK221
                                        have HB := Aside0.mk Q_HB
                                        have HO240 := Aside0.mk (Q_HO240 (hon 28 (by kernel_rfl)))
                                        have hcv_ := own_string (P := Try.prog) Try.underlying37 Try.underlying5 Try.underlying9 (Kd.own_of_R HO240.out)
                                        obtain ⟨Ao29_0, co29_0, eo_⟩ := Kd.R_slice HO240.out
                                        subst eo_
                                        refine value_ (w1 := w') (v := .string (strOfNums y238)) (by rfl) rfl ?_ ?_
                                        · go_simp
                                          (try simp only [i64_w])
                                          try first | rfl | assumption | (simp only [ByteArray.size_append] at *; omega)
                                        refine hK.out _ _ ⟨v230, v235, .slice Ao29_0 y238.length co29_0, (by rw [ha.out]; exact putSel_upk 22 hb_ rfl rfl rfl), Q_BK221, Q_HB, Q_HO231, Q_HO236, Q_HO240⟩
                                      refine steps_cons ?_ ?_
                                      · rintro b a w' ⟨v230, v235, v239, ha, Q_BK221, Q_HB, Q_HO231, Q_HO236, Q_HO240⟩ hb_ hon hoff
                                        refine ⟨_, rfl, fun K hK => ?_⟩
                                        have e85 : a.tmps[85]? = some (.string ((((((strOfNums y229) ++ t232) ++ t233) ++ t223) ++ (strOfNums y234)) ++ t237)) := by rw [ha]; exact putSel_on (e := (23, 85, .string ((((((strOfNums y229) ++ t232) ++ t233) ++ t223) ++ (strOfNums y234)) ++ t237))) 17 rfl rfl (hon 23 (by kernel_rfl)) rfl
                                        have e91 : a.tmps[91]? = some (.string (strOfNums y238)) := by rw [ha]; exact putSel_on (e := (29, 91, .string (strOfNums y238))) 22 rfl rfl (hon 29 (by kernel_rfl)) rfl
                                        replace ha := Aside0.mk ha
                                        have BK221 := Aside0.mk Q_BK221
                                        have HB := Aside0.mk Q_HB
                                        have HO231 := Aside0.mk (Q_HO231 (hon 2 (by kernel_rfl)))
                                        have HO236 := Aside0.mk (Q_HO236 (hon 17 (by kernel_rfl)))
                                        have HO240 := Aside0.mk (Q_HO240 (hon 28 (by kernel_rfl)))
                                        refine value_ (w1 := w') (v := .string (((((((strOfNums y229) ++ t232) ++ t233) ++ t223) ++ (strOfNums y234)) ++ t237) ++ (strOfNums y238))) (by rfl) rfl ?_ ?_
                                        · go_simp
                                          (try simp only [i64_w])
                                          try first | rfl | assumption | (simp only [ByteArray.size_append] at *; omega)
                                        refine hK.out _ _ ⟨v230, v235, v239, (by rw [ha.out]; exact putSel_upk 23 hb_ rfl rfl rfl), Q_BK221, Q_HB, Q_HO231, Q_HO236, Q_HO240⟩
                                      refine steps_cons ?_ ?_
                                      · rintro b a w' ⟨v230, v235, v239, ha, Q_BK221, Q_HB, Q_HO231, Q_HO236, Q_HO240⟩ hb_ hon hoff
                                        refine ⟨_, rfl, fun K hK => ?_⟩
                                        have e93 : a.tmps[93]? = some (.pointer (some ⟨gb221, 0, none⟩)) := by rw [ha]; exact (putSel_off rfl).trans rfl
                                        replace ha := Aside0.mk ha
                                        have BK221 := Aside0.mk Q_BK221
                                        have HB := Aside0.mk Q_HB
                                        have hc0_ : w'.cell? ⟨gb221, 0, none⟩ = some (.string a0_0) := (blk_cell BK221.out 0).trans rfl
                                        have hc1_ : w'.cell? ⟨gb221, 1, none⟩ = some (.int .i64 a0_1) := (blk_cell BK221.out 1).trans rfl
                                        have hc2_ : w'.cell? ⟨gb221, 2, none⟩ = some (.int .i64 a0_2) := (blk_cell BK221.out 2).trans rfl
                                        have hc3_ : w'.cell? ⟨gb221, 3, none⟩ = some (.int .i64 a0_3) := (blk_cell BK221.out 3).trans rfl
                                        have hc4_ : w'.cell? ⟨gb221, 4, none⟩ = some (.int .i64 a0_4) := (blk_cell BK221.out 4).trans rfl
                                        have hc5_ : w'.cell? ⟨gb221, 5, none⟩ = some (.int .i64 a0_5) := (blk_cell BK221.out 5).trans rfl
                                        have hc6_ : w'.cell? ⟨gb221, 6, none⟩ = some (.int .i64 a0_6) := (blk_cell BK221.out 6).trans rfl
                                        have hc7_ : w'.cell? ⟨gb221, 7, none⟩ = some (.string a0_7) := (blk_cell BK221.out 7).trans rfl
                                        refine value_ (w1 := w') (v := .string a0_0) (by rfl) rfl ?_ ?_
                                        · go_simp
                                          (try simp only [i64_w])
                                          try first | rfl | assumption | (simp only [ByteArray.size_append] at *; omega)
                                        refine hK.out _ _ ⟨v230, v235, v239, (by rw [ha.out]; exact putSel_upk 24 hb_ rfl rfl rfl), Q_BK221, Q_HB, Q_HO231, Q_HO236, Q_HO240⟩
                                      refine steps_cons ?_ ?_
                                      · rintro b a w' ⟨v230, v235, v239, ha, Q_BK221, Q_HB, Q_HO231, Q_HO236, Q_HO240⟩ hb_ hon hoff
                                        refine ⟨_, rfl, fun K hK => ?_⟩
                                        have e92 : a.tmps[92]? = some (.string (((((((strOfNums y229) ++ t232) ++ t233) ++ t223) ++ (strOfNums y234)) ++ t237) ++ (strOfNums y238))) := by rw [ha]; exact putSel_on (e := (30, 92, .string (((((((strOfNums y229) ++ t232) ++ t233) ++ t223) ++ (strOfNums y234)) ++ t237) ++ (strOfNums y238)))) 23 rfl rfl (hon 30 (by kernel_rfl)) rfl
                                        have e94 : a.tmps[94]? = some (.string a0_0) := by rw [ha]; exact putSel_on (e := (32, 94, .string a0_0)) 24 rfl rfl (hon 32 (by kernel_rfl)) rfl
                                        replace ha := Aside0.mk ha
                                        have BK221 := Aside0.mk Q_BK221
                                        have HB := Aside0.mk Q_HB
                                        have HO231 := Aside0.mk (Q_HO231 (hon 2 (by kernel_rfl)))
                                        have HO236 := Aside0.mk (Q_HO236 (hon 17 (by kernel_rfl)))
                                        have HO240 := Aside0.mk (Q_HO240 (hon 28 (by kernel_rfl)))
                                        refine value_ (w1 := w') (v := .string ((((((((strOfNums y229) ++ t232) ++ t233) ++ t223) ++ (strOfNums y234)) ++ t237) ++ (strOfNums y238)) ++ a0_0)) (by rfl) rfl ?_ ?_
                                        · go_simp
                                          (try simp only [i64_w])
                                          try first | rfl | assumption | (simp only [ByteArray.size_append] at *; omega)
                                        refine hK.out _ _ ⟨v230, v235, v239, (by rw [ha.out]; exact putSel_upk 25 hb_ rfl rfl rfl), Q_BK221, Q_HB, Q_HO231, Q_HO236, Q_HO240⟩
                                      refine steps_cons ?_ ?_
                                      · rintro b a w' ⟨v230, v235, v239, ha, Q_BK221, Q_HB, Q_HO231, Q_HO236, Q_HO240⟩ hb_ hon hoff
                                        refine ⟨_, rfl, fun K hK => ?_⟩
                                        have e95 : a.tmps[95]? = some (.string ((((((((strOfNums y229) ++ t232) ++ t233) ++ t223) ++ (strOfNums y234)) ++ t237) ++ (strOfNums y238)) ++ a0_0)) := by rw [ha]; exact putSel_on (e := (33, 95, .string ((((((((strOfNums y229) ++ t232) ++ t233) ++ t223) ++ (strOfNums y234)) ++ t237) ++ (strOfNums y238)) ++ a0_0))) 25 rfl rfl (hon 33 (by kernel_rfl)) rfl
                                        replace ha := Aside0.mk ha
                                        have BK221 := Aside0.mk Q_BK221
                                        have HB := Aside0.mk Q_HB
                                        have HO231 := Aside0.mk (Q_HO231 (hon 2 (by kernel_rfl)))
                                        have HO236 := Aside0.mk (Q_HO236 (hon 17 (by kernel_rfl)))
                                        have HO240 := Aside0.mk (Q_HO240 (hon 28 (by kernel_rfl)))
                                        refine value_ (w1 := w') (v := .string ((((((((strOfNums y229) ++ t232) ++ t233) ++ t223) ++ (strOfNums y234)) ++ t237) ++ (strOfNums y238)) ++ a0_0)) (by rfl) rfl ?_ ?_
                                        · go_simp
                                          (try simp only [i64_w])
                                          try first | rfl | assumption | (simp only [ByteArray.size_append] at *; omega)
                                        refine hK.out _ _ ⟨v230, v235, v239, (by rw [ha.out]; exact putSel_upk 26 hb_ rfl rfl rfl), Q_BK221, Q_HB, Q_HO231, Q_HO236, Q_HO240⟩
                                      exact steps_nil
                                    rintro b a w52 hall ⟨v230, v235, v239, ha, Q_BK221, Q_HB, Q_HO231, Q_HO236, Q_HO240⟩
                                    clear BK221 HB
                                    have hb1_ := hall 1 (by kernel_rfl)
                                    have hb2_ := hall 2 (by kernel_rfl)
                                    have hb3_ := hall 3 (by kernel_rfl)
                                    have hb5_ := hall 5 (by kernel_rfl)
                                    have hb6_ := hall 6 (by kernel_rfl)
                                    have hb7_ := hall 7 (by kernel_rfl)
                                    have hb9_ := hall 9 (by kernel_rfl)
                                    have hb10_ := hall 10 (by kernel_rfl)
                                    have hb11_ := hall 11 (by kernel_rfl)
                                    have hb13_ := hall 13 (by kernel_rfl)
                                    have hb15_ := hall 15 (by kernel_rfl)
                                    have hb16_ := hall 16 (by kernel_rfl)
                                    have hb17_ := hall 17 (by kernel_rfl)
                                    have hb18_ := hall 18 (by kernel_rfl)
                                    have hb19_ := hall 19 (by kernel_rfl)
                                    have hb21_ := hall 21 (by kernel_rfl)
                                    have hb22_ := hall 22 (by kernel_rfl)
                                    have hb23_ := hall 23 (by kernel_rfl)
                                    have hb25_ := hall 25 (by kernel_rfl)
                                    have hb26_ := hall 26 (by kernel_rfl)
                                    have hb27_ := hall 27 (by kernel_rfl)
                                    have hb28_ := hall 28 (by kernel_rfl)
                                    have hb29_ := hall 29 (by kernel_rfl)
                                    have hb30_ := hall 30 (by kernel_rfl)
                                    have hb32_ := hall 32 (by kernel_rfl)
                                    have hb33_ := hall 33 (by kernel_rfl)
                                    have hb34_ := hall 34 (by kernel_rfl)
                                    subst ha
                                    simp only [putSel, hb1_, hb2_, hb3_, hb5_, hb6_, hb7_, hb9_, hb10_, hb11_, hb13_, hb15_, hb16_, hb17_, hb18_, hb19_, hb21_, hb22_, hb23_, hb25_, hb26_, hb27_, hb28_, hb29_, hb30_, hb32_, hb33_, hb34_, if_true, Act.put, List.setIfInBounds_toArray, List.set_cons_zero, List.set_cons_succ]
                                    have BK221 := Aside0.mk Q_BK221
                                    clear Q_BK221
                                    have HB := Aside0.mk Q_HB
                                    clear Q_HB
                                    have HO231 := Aside0.mk (Q_HO231 hb2_)
                                    clear Q_HO231
                                    have HO236 := Aside0.mk (Q_HO236 hb17_)
                                    clear Q_HO236
                                    have HO240 := Aside0.mk (Q_HO240 hb28_)
                                    clear Q_HO240
                                    clear hall hb1_ hb2_ hb3_ hb5_ hb6_ hb7_ hb9_ hb10_ hb11_ hb13_ hb15_ hb16_ hb17_ hb18_ hb19_ hb21_ hb22_ hb23_ hb25_ hb26_ hb27_ hb28_ hb29_ hb30_ hb32_ hb33_ hb34_
                                    have hcz56_0 : w52.cell? ⟨gb221, 0, none⟩ = some (.string a0_0) := (blk_cell BK221.out 0).trans rfl
                                    have hcz56_1 : w52.cell? ⟨gb221, 1, none⟩ = some (.int .i64 a0_1) := (blk_cell BK221.out 1).trans rfl
                                    have hcz56_2 : w52.cell? ⟨gb221, 2, none⟩ = some (.int .i64 a0_2) := (blk_cell BK221.out 2).trans rfl
                                    have hcz56_3 : w52.cell? ⟨gb221, 3, none⟩ = some (.int .i64 a0_3) := (blk_cell BK221.out 3).trans rfl
                                    have hcz56_4 : w52.cell? ⟨gb221, 4, none⟩ = some (.int .i64 a0_4) := (blk_cell BK221.out 4).trans rfl
                                    have hcz56_5 : w52.cell? ⟨gb221, 5, none⟩ = some (.int .i64 a0_5) := (blk_cell BK221.out 5).trans rfl
                                    have hcz56_6 : w52.cell? ⟨gb221, 6, none⟩ = some (.int .i64 a0_6) := (blk_cell BK221.out 6).trans rfl
                                    have hcz56_7 : w52.cell? ⟨gb221, 7, none⟩ = some (.string a0_7) := (blk_cell BK221.out 7).trans rfl
                                    have hfz56_0 := blk_frozen BK221.out 0
                                    have hfz56_1 := blk_frozen BK221.out 1
                                    have hfz56_2 := blk_frozen BK221.out 2
                                    have hfz56_3 := blk_frozen BK221.out 3
                                    have hfz56_4 := blk_frozen BK221.out 4
                                    have hfz56_5 := blk_frozen BK221.out 5
                                    have hfz56_6 := blk_frozen BK221.out 6
                                    have hfz56_7 := blk_frozen BK221.out 7
                                    try go_wp2
                                    go_ret2
                                    exact ⟨by first | rfl | (simp [errW_none, errW_some] <;> rfl) | (simp [*, errW_none, errW_some] <;> rfl), by repeat (first | (with_reducible first | exact HB.out | apply below_alloc | apply pw_below_drewN | apply below_drew1 | refine below_set ?_ GE221.out) | exact HB.out)⟩
                                  · rw [if_neg c41] at H
                                    exact absurd H (by simp)
                                · rw [if_neg c40] at H
                                  exact absurd H (by simp)
                              · rw [if_neg c39] at H
                                have c39b0 : (((a0_0.size : Int) % 2) == 0) = false := beq_eq_false_iff_ne.mpr c39
                                have c39b1 : (((a0_0.size : Int) % 2) != 0) = true := bne_iff_ne.mpr c39
                                by_cases c57 : ((((((((strOfNums y229) ++ t232) ++ t233) ++ t223) ++ (strOfNums y234)) ++ t237) ++ (strOfNums y238)) ++ a0_0).size + a0_7.size ≤ 9223372036854775807
                                · rw [if_pos c57] at H
                                  have c57b0 := eq_true c57
                                  have c57b1 : decide (((((((((strOfNums y229) ++ t232) ++ t233) ++ t223) ++ (strOfNums y234)) ++ t237) ++ (strOfNums y238)) ++ a0_0).size + a0_7.size ≤ 9223372036854775807) = true := decide_eq_true c57
                                  try have c57b2 : (9223372036854775807 < ((((((((strOfNums y229) ++ t232) ++ t233) ++ t223) ++ (strOfNums y234)) ++ t237) ++ (strOfNums y238)) ++ a0_0).size + a0_7.size) = False := eq_false (Nat.not_lt.2 c57)
                                  (try simp only [ByteArray.size_append] at c57b0 c57b1 c57b2)
                                  simp only [Option.some.injEq, Prod.mk.injEq] at H
                                  obtain ⟨rfl, rfl⟩ := H
                                  try go_wp2
                                  have n0_ := Aside0.mk (blk_drew BK221.out)
                                  have n1_ := Aside0.mk (below_drew1 HB.out)
                                  clear BK221
                                  clear HB
                                  have BK221 := n0_
                                  have HB := n1_
                                  clear n0_ n1_
                                  refine start_ (n := 35) (S := fun w' => True) (ds := []) #[false, false, false, false, false, false, false, false, false, false, false, false, false, false, false, false, false, false, false, false, false, false, false, false, false, false, false, false, false, false, false, false, false, false, false] (by kernel_rfl) rfl rfl trivial (fun hHeld => ?_); refine with_tabW masterdiscref20_Encode.tab9 masterdiscref20_Encode.bits9 (fun HT_ HW_ => ?_)
                                  generalize wc.drew = w58 at BK221 HB hHeld ⊢
                                  refine pure_ (i := 0) (N := some 62) (v := ?_) (a' := ?_) #[true, false, false, false, false, false, false, false, false, false, false, false, false, false, false, false, false, false, false, false, false, false, false, false, false, false, false, false, false, false, false, false, false, false, false] rfl rfl (any_of HT_.out (by kernel_rfl)) (fun _ _ _ h => h) (Or.inl ⟨by rfl, ?_⟩) ?_ ?_
                                  rotate_left
                                  · intro w'
                                    go_simp
                                    with_reducible rfl
                                  rotate_left
                                  · simp only [Act.put, List.setIfInBounds_toArray, List.set_cons_zero, List.set_cons_succ, i64_w, i32_w]
                                    rfl
                                  refine pure_ (i := 4) (N := some 66) (v := ?_) (a' := ?_) #[true, false, false, false, true, false, false, false, false, false, false, false, false, false, false, false, false, false, false, false, false, false, false, false, false, false, false, false, false, false, false, false, false, false, false] rfl rfl (any_of HT_.out (by kernel_rfl)) (fun _ _ _ h => h) (Or.inl ⟨by rfl, ?_⟩) ?_ ?_
                                  rotate_left
                                  · intro w'
                                    go_simp
                                    with_reducible rfl
                                  rotate_left
                                  · simp only [Act.put, List.setIfInBounds_toArray, List.set_cons_zero, List.set_cons_succ, i64_w, i32_w]
                                    rfl
                                  refine pure_ (i := 8) (N := some 70) (v := ?_) (a' := ?_) #[true, false, false, false, true, false, false, false, true, false, false, false, false, false, false, false, false, false, false, false, false, false, false, false, false, false, false, false, false, false, false, false, false, false, false] rfl rfl (any_of HT_.out (by kernel_rfl)) (fun _ _ _ h => h) (Or.inl ⟨by rfl, ?_⟩) ?_ ?_
                                  rotate_left
                                  · intro w'
                                    go_simp
                                    with_reducible rfl
                                  rotate_left
                                  · simp only [Act.put, List.setIfInBounds_toArray, List.set_cons_zero, List.set_cons_succ, i64_w, i32_w]
                                    rfl
                                  refine pure_ (i := 12) (N := some 74) (v := ?_) (a' := ?_) #[true, false, false, false, true, false, false, false, true, false, false, false, true, false, false, false, false, false, false, false, false, false, false, false, false, false, false, false, false, false, false, false, false, false, false] rfl rfl (any_of HT_.out (by kernel_rfl)) (fun _ _ _ h => h) (Or.inl ⟨by rfl, ?_⟩) ?_ ?_
                                  rotate_left
                                  · intro w'
                                    go_simp
                                    with_reducible rfl
                                  rotate_left
                                  · simp only [Act.put, List.setIfInBounds_toArray, List.set_cons_zero, List.set_cons_succ, i64_w, i32_w]
                                    rfl
                                  refine pure_ (i := 14) (N := some 76) (v := ?_) (a' := ?_) #[true, false, false, false, true, false, false, false, true, false, false, false, true, false, true, false, false, false, false, false, false, false, false, false, false, false, false, false, false, false, false, false, false, false, false] rfl rfl (any_of HT_.out (by kernel_rfl)) (fun _ _ _ h => h) (Or.inl ⟨by rfl, ?_⟩) ?_ ?_
                                  rotate_left
                                  · intro w'
                                    go_simp
                                    with_reducible rfl
                                  rotate_left
                                  · simp only [Act.put, List.setIfInBounds_toArray, List.set_cons_zero, List.set_cons_succ, i64_w, i32_w]
                                    rfl
                                  refine pure_ (i := 20) (N := some 82) (v := ?_) (a' := ?_) #[true, false, false, false, true, false, false, false, true, false, false, false, true, false, true, false, false, false, false, false, true, false, false, false, false, false, false, false, false, false, false, false, false, false, false] rfl rfl (any_of HT_.out (by kernel_rfl)) (fun _ _ _ h => h) (Or.inl ⟨by rfl, ?_⟩) ?_ ?_
                                  rotate_left
                                  · intro w'
                                    go_simp
                                    with_reducible rfl
                                  rotate_left
                                  · simp only [Act.put, List.setIfInBounds_toArray, List.set_cons_zero, List.set_cons_succ, i64_w, i32_w]
                                    rfl
                                  refine pure_ (i := 24) (N := some 86) (v := ?_) (a' := ?_) #[true, false, false, false, true, false, false, false, true, false, false, false, true, false, true, false, false, false, false, false, true, false, false, false, true, false, false, false, false, false, false, false, false, false, false] rfl rfl (any_of HT_.out (by kernel_rfl)) (fun _ _ _ h => h) (Or.inl ⟨by rfl, ?_⟩) ?_ ?_
                                  rotate_left
                                  · intro w'
                                    go_simp
                                    with_reducible rfl
                                  rotate_left
                                  · simp only [Act.put, List.setIfInBounds_toArray, List.set_cons_zero, List.set_cons_succ, i64_w, i32_w]
                                    rfl
                                  refine pure_ (i := 31) (N := some 93) (v := ?_) (a' := ?_) #[true, false, false, false, true, false, false, false, true, false, false, false, true, false, true, false, false, false, false, false, true, false, false, false, true, false, false, false, false, false, false, true, false, false, false] rfl rfl (any_of HT_.out (by kernel_rfl)) (fun _ _ _ h => h) (Or.inl ⟨by rfl, ?_⟩) ?_ ?_
                                  rotate_left
                                  · intro w'
                                    go_simp
                                    with_reducible rfl
                                  rotate_left
                                  · simp only [Act.put, List.setIfInBounds_toArray, List.set_cons_zero, List.set_cons_succ, i64_w, i32_w]
                                    rfl
                                  refine inv_at [1, 2, 3, 5, 6, 7, 9, 10, 11, 13, 15, 16, 17, 18, 19, 21, 22, 23, 25, 26, 27, 28, 29, 30, 32, 33, 34] (fun a0_ b a w' => ∃ (v230 : Value) (v235 : Value) (v239 : Value), a = putSel a0_ b [(1, 63, .int .u8 ((t222) % 256)), (2, 64, v230), (3, 65, .string (strOfNums y229)), (5, 67, .int .i64 a0_1), (6, 68, .string t232), (7, 69, .string ((strOfNums y229) ++ t232)), (9, 71, .int .i64 a0_2), (10, 72, .string t233), (11, 73, .string (((strOfNums y229) ++ t232) ++ t233)), (13, 75, .string ((((strOfNums y229) ++ t232) ++ t233) ++ t223)), (15, 77, .int .i64 a0_5), (16, 78, .int .u8 ((a0_5) % 256)), (17, 79, v235), (18, 80, .string (strOfNums y234)), (19, 81, .string (((((strOfNums y229) ++ t232) ++ t233) ++ t223) ++ (strOfNums y234))), (21, 83, .int .i64 a0_6), (22, 84, .string t237), (23, 85, .string ((((((strOfNums y229) ++ t232) ++ t233) ++ t223) ++ (strOfNums y234)) ++ t237)), (25, 87, .string a0_0), (26, 88, .int .i64 (a0_0.size : Int)), (27, 89, .int .u8 (((a0_0.size : Int)) % 256)), (28, 90, v239), (29, 91, .string (strOfNums y238)), (30, 92, .string (((((((strOfNums y229) ++ t232) ++ t233) ++ t223) ++ (strOfNums y234)) ++ t237) ++ (strOfNums y238))), (32, 94, .string a0_0), (33, 95, .string ((((((((strOfNums y229) ++ t232) ++ t233) ++ t223) ++ (strOfNums y234)) ++ t237) ++ (strOfNums y238)) ++ a0_0)), (34, 7, .string ((((((((strOfNums y229) ++ t232) ++ t233) ++ t223) ++ (strOfNums y234)) ++ t237) ++ (strOfNums y238)) ++ a0_0))] ∧ (w'.heap[gb221]? = some (.cells #[.string a0_0, .int .i64 a0_1, .int .i64 a0_2, .int .i64 a0_3, .int .i64 a0_4, .int .i64 a0_5, .int .i64 a0_6, .string a0_7] 23 (0, 0))) ∧ (Below w.heap.size w w') ∧ (b 2 = true → Kd.R (Kd.int .u8) 5 w' w.heap.size (fun _ => True) v230 y229) ∧ (b 17 = true → Kd.R (Kd.int .u8) 5 w' w.heap.size (fun _ => True) v235 y234) ∧ (b 28 = true → Kd.R (Kd.int .u8) 5 w' w.heap.size (fun _ => True) v239 y238)) HT_.out HW_.out (by kernel_rfl) (by kernel_rfl) ?_ ?_ ?_
                                  · exact ⟨.bool false, .bool false, .bool false, by simp only [putSel, Bool.false_eq_true, if_false], BK221.out, HB.out, fun h_ => absurd h_ (by decide), fun h_ => absurd h_ (by decide), fun h_ => absurd h_ (by decide)⟩
                                  · skip
                                    clear BK221 HB
                                    refine steps_cons ?_ ?_
                                    · rintro b a w' ⟨v230, v235, v239, ha, Q_BK221, Q_HB, Q_HO231, Q_HO236, Q_HO240⟩ hb_ hon hoff
                                      refine ⟨_, rfl, fun K hK => ?_⟩
                                      have e62 : a.tmps[62]? = some (.int .i64 t222) := by rw [ha]; exact (putSel_off rfl).trans rfl
                                      replace ha := Aside0.mk ha
                                      have BK221 := Aside0.mk Q_BK221
                                      have HB := Aside0.mk Q_HB
                                      refine value_ (w1 := w') (v := .int .u8 ((t222) % 256)) (by rfl) rfl ?_ ?_
                                      · go_simp
                                        (try simp only [i64_w])
                                        try first | rfl | assumption | (simp only [ByteArray.size_append] at *; omega)
                                      refine hK.out _ _ ⟨v230, v235, v239, (by rw [ha.out]; exact putSel_upk 0 hb_ rfl rfl rfl), Q_BK221, Q_HB, fun h0_ => absurd ((hoff 2 (by kernel_rfl)).symm.trans h0_) (by decide), Q_HO236, Q_HO240⟩
                                    refine steps_cons ?_ ?_
                                    · rintro b a w' ⟨v230, v235, v239, ha, Q_BK221, Q_HB, Q_HO231, Q_HO236, Q_HO240⟩ hb_ hon hoff
                                      refine ⟨_, rfl, fun K hK => ?_⟩
                                      have e63 : a.tmps[63]? = some (.int .u8 ((t222) % 256)) := by rw [ha]; exact putSel_on (e := (1, 63, .int .u8 ((t222) % 256))) 0 rfl rfl (hon 1 (by kernel_rfl)) rfl
                                      replace ha := Aside0.mk ha
                                      have BK221 := Aside0.mk Q_BK221
                                      have HB := Aside0.mk Q_HB
                                      refine Kd.R_lit_step (Kd.int .u8) _ 5 ?hg (N := 64) ?hd (xs := ([(t222) % 256, 0] : List Int)) (inner := [.int .u8 ((t222) % 256), .int .u8 0]) (ok := fun _ => True) (okp := fun _ => True) ?hr ?hp (fun _ hk => hk) trivial (Below.refl _ _) (Nat.le_refl _) (by simp) ?_; (case hd => rfl); (case hg => rfl); (case hr => first | (go_simp; done) | (go_simp; rfl)); (case hp => exact (Reps.one (show Kd.M (Kd.int .u8) _ _ _ ((t222) % 256) [.int .u8 ((t222) % 256)] from rfl) (Reps.one (show Kd.M (Kd.int .u8) _ _ _ 0 [.int .u8 0] from rfl) (Reps.none _ _))))
                                      intro v230 w59 ho60 hb hg_ hnew_
                                      clear hg_ hnew_
                                      (first | rw [← Ny229.out] at ho60 | (simp only [Int.reduceToNat] at ho60; rw [← Ny229.out] at ho60))
                                      have n0_ := Aside0.mk (Kd.R_lower ho60 (below_size (by repeat (first | (with_reducible first | exact HB.out | apply below_alloc | apply pw_below_drewN | apply below_drew1 | refine below_set ?_ GE221.out) | exact HB.out))))
                                      have n1_ := Aside0.mk (blk_below (g := gb221) (o := .cells #[.string a0_0, .int .i64 a0_1, .int .i64 a0_2, .int .i64 a0_3, .int .i64 a0_4, .int .i64 a0_5, .int .i64 a0_6, .string a0_7] 23 (0, 0)) (by (with_reducible repeat (first | refine blk_drewN ?_ _ | refine blk_drew ?_ | refine blk_alloc ?_ _)); exact BK221.out) hb)
                                      have n2_ := Aside0.mk (below_step (by repeat (first | (with_reducible first | exact HB.out | apply below_alloc | apply pw_below_drewN | apply below_drew1 | refine below_set ?_ GE221.out) | exact HB.out)) hb)
                                      have z_HO236 := fun (h0_ : b 17 = true) => (show Kd.R (Kd.int .u8) 5 w59 w.heap.size (fun _ => True) v235 y234 from by first | exact (Kd.R_elder' (by (with_reducible repeat (first | apply Kd.R_alloc | apply Kd.R_drewN | apply Kd.R_drew)); exact (Q_HO236 h0_)) (Kd.R_base ho60) hb) | exact Kd.R_mono (Kd.R_elder' (by (with_reducible repeat (first | apply Kd.R_alloc | apply Kd.R_drewN | apply Kd.R_drew)); exact (Q_HO236 h0_)) (Kd.R_base ho60) hb) (fun _ h_ => by first | trivial | exact h_ | exact h_.1))
                                      have z_HO240 := fun (h0_ : b 28 = true) => (show Kd.R (Kd.int .u8) 5 w59 w.heap.size (fun _ => True) v239 y238 from by first | exact (Kd.R_elder' (by (with_reducible repeat (first | apply Kd.R_alloc | apply Kd.R_drewN | apply Kd.R_drew)); exact (Q_HO240 h0_)) (Kd.R_base ho60) hb) | exact Kd.R_mono (Kd.R_elder' (by (with_reducible repeat (first | apply Kd.R_alloc | apply Kd.R_drewN | apply Kd.R_drew)); exact (Q_HO240 h0_)) (Kd.R_base ho60) hb) (fun _ h_ => by first | trivial | exact h_ | exact h_.1))
                                      clear BK221
                                      clear HB
                                      have HO231 := n0_
                                      have BK221 := n1_
                                      have HB := n2_
                                      clear n0_ n1_ n2_
                                      clear hb ho60
                                      refine hK.out _ _ ⟨v230, v235, v239, (by rw [ha.out]; exact putSel_upk 1 hb_ rfl rfl rfl), (by (with_reducible repeat (first | refine blk_drewN ?_ _ | refine blk_drew ?_ | refine blk_alloc ?_ _)); exact BK221.out), (by repeat (first | (with_reducible first | exact HB.out | apply below_alloc | apply pw_below_drewN | apply below_drew1 | refine below_set ?_ GE221.out) | exact HB.out)), fun _ => (by (with_reducible repeat (first | apply Kd.R_alloc | apply Kd.R_drewN | apply Kd.R_drew)); exact HO231.out), z_HO236, z_HO240⟩
                                    refine steps_cons ?_ ?_
                                    · rintro b a w' ⟨v230, v235, v239, ha, Q_BK221, Q_HB, Q_HO231, Q_HO236, Q_HO240⟩ hb_ hon hoff
                                      refine ⟨_, rfl, fun K hK => ?_⟩
                                      have e64 : a.tmps[64]? = some (v230) := by rw [ha]; exact putSel_on (e := (2, 64, v230)) 1 rfl rfl (hon 2 (by kernel_rfl)) rfl
                                      replace ha := Aside0.mk ha
                                      have BK221 := Aside0.mk Q_BK221
                                      have HB := Aside0.mk Q_HB
                                      have HO231 := Aside0.mk (Q_HO231 (hon 2 (by kernel_rfl)))
                                      have hcv_ := own_string (P := Try.prog) Try.underlying37 Try.underlying5 Try.underlying9 (Kd.own_of_R HO231.out)
                                      obtain ⟨Ao3_0, co3_0, eo_⟩ := Kd.R_slice HO231.out
                                      subst eo_
                                      refine value_ (w1 := w') (v := .string (strOfNums y229)) (by rfl) rfl ?_ ?_
                                      · go_simp
                                        (try simp only [i64_w])
                                        try first | rfl | assumption | (simp only [ByteArray.size_append] at *; omega)
                                      refine hK.out _ _ ⟨.slice Ao3_0 y229.length co3_0, v235, v239, (by rw [ha.out]; exact putSel_upk 2 hb_ rfl rfl rfl), Q_BK221, Q_HB, Q_HO231, Q_HO236, Q_HO240⟩
                                    refine steps_cons ?_ ?_
                                    · rintro b a w' ⟨v230, v235, v239, ha, Q_BK221, Q_HB, Q_HO231, Q_HO236, Q_HO240⟩ hb_ hon hoff
                                      refine ⟨_, rfl, fun K hK => ?_⟩
                                      have e66 : a.tmps[66]? = some (.pointer (some ⟨gb221, 1, none⟩)) := by rw [ha]; exact (putSel_off rfl).trans rfl
                                      replace ha := Aside0.mk ha
                                      have BK221 := Aside0.mk Q_BK221
                                      have HB := Aside0.mk Q_HB
                                      have hc0_ : w'.cell? ⟨gb221, 0, none⟩ = some (.string a0_0) := (blk_cell BK221.out 0).trans rfl
                                      have hc1_ : w'.cell? ⟨gb221, 1, none⟩ = some (.int .i64 a0_1) := (blk_cell BK221.out 1).trans rfl
                                      have hc2_ : w'.cell? ⟨gb221, 2, none⟩ = some (.int .i64 a0_2) := (blk_cell BK221.out 2).trans rfl
                                      have hc3_ : w'.cell? ⟨gb221, 3, none⟩ = some (.int .i64 a0_3) := (blk_cell BK221.out 3).trans rfl
                                      have hc4_ : w'.cell? ⟨gb221, 4, none⟩ = some (.int .i64 a0_4) := (blk_cell BK221.out 4).trans rfl
                                      have hc5_ : w'.cell? ⟨gb221, 5, none⟩ = some (.int .i64 a0_5) := (blk_cell BK221.out 5).trans rfl
                                      have hc6_ : w'.cell? ⟨gb221, 6, none⟩ = some (.int .i64 a0_6) := (blk_cell BK221.out 6).trans rfl
                                      have hc7_ : w'.cell? ⟨gb221, 7, none⟩ = some (.string a0_7) := (blk_cell BK221.out 7).trans rfl
                                      refine value_ (w1 := w') (v := .int .i64 a0_1) (by rfl) rfl ?_ ?_
                                      · go_simp
                                        (try simp only [i64_w])
                                        try first | rfl | assumption | (simp only [ByteArray.size_append] at *; omega)
                                      refine hK.out _ _ ⟨v230, v235, v239, (by rw [ha.out]; exact putSel_upk 3 hb_ rfl rfl rfl), Q_BK221, Q_HB, Q_HO231, Q_HO236, Q_HO240⟩
                                    refine steps_cons ?_ ?_
                                    · rintro b a w' ⟨v230, v235, v239, ha, Q_BK221, Q_HB, Q_HO231, Q_HO236, Q_HO240⟩ hb_ hon hoff
                                      refine ⟨_, rfl, fun K hK => ?_⟩
                                      have e67 : a.tmps[67]? = some (.int .i64 a0_1) := by rw [ha]; exact putSel_on (e := (5, 67, .int .i64 a0_1)) 3 rfl rfl (hon 5 (by kernel_rfl)) rfl
                                      replace ha := Aside0.mk ha
                                      have BK221 := Aside0.mk Q_BK221
                                      have HB := Aside0.mk Q_HB
                                      refine goes_ Try.func30 (by kernel_rfl) rfl #[.int .i64 a0_1, .int .i64 4] (by rfl) rfl rfl (by first | (simp only [List.map_toArray, List.map_cons, List.map_nil, Act.eval, Array.getD_eq_getD_getElem?, Option.getD_some, e67]; done) | (simp only [List.map_toArray, List.map_cons, List.map_nil, Act.eval, Array.getD_eq_getD_getElem?, Option.getD_some, e67]; rfl)) ?_
                                      with_reducible refine (masterdiscref20_both.calls kj11 a0_1 4 t232 _ A29.out).mono ?_
                                      rintro e w59 ⟨rfl, hb⟩
                                      refine ⟨_, rfl, ?_⟩
                                      have n0_ := Aside0.mk (blk_below (g := gb221) (o := .cells #[.string a0_0, .int .i64 a0_1, .int .i64 a0_2, .int .i64 a0_3, .int .i64 a0_4, .int .i64 a0_5, .int .i64 a0_6, .string a0_7] 23 (0, 0)) (by (with_reducible repeat (first | refine blk_drewN ?_ _ | refine blk_drew ?_ | refine blk_alloc ?_ _)); exact BK221.out) hb)
                                      have n1_ := Aside0.mk (below_step (by repeat (first | (with_reducible first | exact HB.out | apply below_alloc | apply pw_below_drewN | apply below_drew1 | refine below_set ?_ GE221.out) | exact HB.out)) hb)
                                      have z_HO231 := fun (h0_ : b 2 = true) => (show Kd.R (Kd.int .u8) 5 w59 w.heap.size (fun _ => True) v230 y229 from by first | exact (Kd.R_below (by (with_reducible repeat (first | apply Kd.R_alloc | apply Kd.R_drewN | apply Kd.R_drew)); exact (Q_HO231 h0_)) hb) | exact Kd.R_mono (Kd.R_below (by (with_reducible repeat (first | apply Kd.R_alloc | apply Kd.R_drewN | apply Kd.R_drew)); exact (Q_HO231 h0_)) hb) (fun _ h_ => by first | trivial | exact h_ | exact h_.1))
                                      have z_HO236 := fun (h0_ : b 17 = true) => (show Kd.R (Kd.int .u8) 5 w59 w.heap.size (fun _ => True) v235 y234 from by first | exact (Kd.R_below (by (with_reducible repeat (first | apply Kd.R_alloc | apply Kd.R_drewN | apply Kd.R_drew)); exact (Q_HO236 h0_)) hb) | exact Kd.R_mono (Kd.R_below (by (with_reducible repeat (first | apply Kd.R_alloc | apply Kd.R_drewN | apply Kd.R_drew)); exact (Q_HO236 h0_)) hb) (fun _ h_ => by first | trivial | exact h_ | exact h_.1))
                                      have z_HO240 := fun (h0_ : b 28 = true) => (show Kd.R (Kd.int .u8) 5 w59 w.heap.size (fun _ => True) v239 y238 from by first | exact (Kd.R_below (by (with_reducible repeat (first | apply Kd.R_alloc | apply Kd.R_drewN | apply Kd.R_drew)); exact (Q_HO240 h0_)) hb) | exact Kd.R_mono (Kd.R_below (by (with_reducible repeat (first | apply Kd.R_alloc | apply Kd.R_drewN | apply Kd.R_drew)); exact (Q_HO240 h0_)) hb) (fun _ h_ => by first | trivial | exact h_ | exact h_.1))
                                      clear BK221
                                      clear HB
                                      have BK221 := n0_
                                      have HB := n1_
                                      clear n0_ n1_
                                      (try clear hb)
                                      (try clear hb2)
                                      (try clear hk)
                                      (try clear hi)
                                      refine hK.out _ _ ⟨v230, v235, v239, (by rw [ha.out]; exact putSel_upk 4 hb_ rfl rfl rfl), (by (with_reducible repeat (first | refine blk_drewN ?_ _ | refine blk_drew ?_ | refine blk_alloc ?_ _)); exact BK221.out), (by repeat (first | (with_reducible first | exact HB.out | apply below_alloc | apply pw_below_drewN | apply below_drew1 | refine below_set ?_ GE221.out) | exact HB.out)), z_HO231, z_HO236, z_HO240⟩
                                    refine steps_cons ?_ ?_
                                    · rintro b a w' ⟨v230, v235, v239, ha, Q_BK221, Q_HB, Q_HO231, Q_HO236, Q_HO240⟩ hb_ hon hoff
                                      refine ⟨_, rfl, fun K hK => ?_⟩
                                      have e65 : a.tmps[65]? = some (.string (strOfNums y229)) := by rw [ha]; exact putSel_on (e := (3, 65, .string (strOfNums y229))) 2 rfl rfl (hon 3 (by kernel_rfl)) rfl
                                      have e68 : a.tmps[68]? = some (.string t232) := by rw [ha]; exact putSel_on (e := (6, 68, .string t232)) 4 rfl rfl (hon 6 (by kernel_rfl)) rfl
                                      replace ha := Aside0.mk ha
                                      have BK221 := Aside0.mk Q_BK221
                                      have HB := Aside0.mk Q_HB
                                      have HO231 := Aside0.mk (Q_HO231 (hon 2 (by kernel_rfl)))
                                      refine value_ (w1 := w') (v := .string ((strOfNums y229) ++ t232)) (by rfl) rfl ?_ ?_
                                      · go_simp
                                        (try simp only [i64_w])
                                        try first | rfl | assumption | (simp only [ByteArray.size_append] at *; omega)
                                      refine hK.out _ _ ⟨v230, v235, v239, (by rw [ha.out]; exact putSel_upk 5 hb_ rfl rfl rfl), Q_BK221, Q_HB, Q_HO231, Q_HO236, Q_HO240⟩
                                    refine steps_cons ?_ ?_
                                    · rintro b a w' ⟨v230, v235, v239, ha, Q_BK221, Q_HB, Q_HO231, Q_HO236, Q_HO240⟩ hb_ hon hoff
                                      refine ⟨_, rfl, fun K hK => ?_⟩
                                      have e70 : a.tmps[70]? = some (.pointer (some ⟨gb221, 2, none⟩)) := by rw [ha]; exact (putSel_off rfl).trans rfl
                                      replace ha := Aside0.mk ha
                                      have BK221 := Aside0.mk Q_BK221
                                      have HB := Aside0.mk Q_HB
                                      have hc0_ : w'.cell? ⟨gb221, 0, none⟩ = some (.string a0_0) := (blk_cell BK221.out 0).trans rfl
                                      have hc1_ : w'.cell? ⟨gb221, 1, none⟩ = some (.int .i64 a0_1) := (blk_cell BK221.out 1).trans rfl
                                      have hc2_ : w'.cell? ⟨gb221, 2, none⟩ = some (.int .i64 a0_2) := (blk_cell BK221.out 2).trans rfl
                                      have hc3_ : w'.cell? ⟨gb221, 3, none⟩ = some (.int .i64 a0_3) := (blk_cell BK221.out 3).trans rfl
                                      have hc4_ : w'.cell? ⟨gb221, 4, none⟩ = some (.int .i64 a0_4) := (blk_cell BK221.out 4).trans rfl
                                      have hc5_ : w'.cell? ⟨gb221, 5, none⟩ = some (.int .i64 a0_5) := (blk_cell BK221.out 5).trans rfl
                                      have hc6_ : w'.cell? ⟨gb221, 6, none⟩ = some (.int .i64 a0_6) := (blk_cell BK221.out 6).trans rfl
                                      have hc7_ : w'.cell? ⟨gb221, 7, none⟩ = some (.string a0_7) := (blk_cell BK221.out 7).trans rfl
                                      refine value_ (w1 := w') (v := .int .i64 a0_2) (by rfl) rfl ?_ ?_
                                      · go_simp
                                        (try simp only [i64_w])
                                        try first | rfl | assumption | (simp only [ByteArray.size_append] at *; omega)
                                      refine hK.out _ _ ⟨v230, v235, v239, (by rw [ha.out]; exact putSel_upk 6 hb_ rfl rfl rfl), Q_BK221, Q_HB, Q_HO231, Q_HO236, Q_HO240⟩
                                    refine steps_cons ?_ ?_
                                    · rintro b a w' ⟨v230, v235, v239, ha, Q_BK221, Q_HB, Q_HO231, Q_HO236, Q_HO240⟩ hb_ hon hoff
                                      refine ⟨_, rfl, fun K hK => ?_⟩
                                      have e71 : a.tmps[71]? = some (.int .i64 a0_2) := by rw [ha]; exact putSel_on (e := (9, 71, .int .i64 a0_2)) 6 rfl rfl (hon 9 (by kernel_rfl)) rfl
                                      replace ha := Aside0.mk ha
                                      have BK221 := Aside0.mk Q_BK221
                                      have HB := Aside0.mk Q_HB
                                      refine goes_ Try.func30 (by kernel_rfl) rfl #[.int .i64 a0_2, .int .i64 4] (by rfl) rfl rfl (by first | (simp only [List.map_toArray, List.map_cons, List.map_nil, Act.eval, Array.getD_eq_getD_getElem?, Option.getD_some, e71]; done) | (simp only [List.map_toArray, List.map_cons, List.map_nil, Act.eval, Array.getD_eq_getD_getElem?, Option.getD_some, e71]; rfl)) ?_
                                      with_reducible refine (masterdiscref20_both.calls kj11 a0_2 4 t233 _ A31.out).mono ?_
                                      rintro e w61 ⟨rfl, hb⟩
                                      refine ⟨_, rfl, ?_⟩
                                      have n0_ := Aside0.mk (blk_below (g := gb221) (o := .cells #[.string a0_0, .int .i64 a0_1, .int .i64 a0_2, .int .i64 a0_3, .int .i64 a0_4, .int .i64 a0_5, .int .i64 a0_6, .string a0_7] 23 (0, 0)) (by (with_reducible repeat (first | refine blk_drewN ?_ _ | refine blk_drew ?_ | refine blk_alloc ?_ _)); exact BK221.out) hb)
                                      have n1_ := Aside0.mk (below_step (by repeat (first | (with_reducible first | exact HB.out | apply below_alloc | apply pw_below_drewN | apply below_drew1 | refine below_set ?_ GE221.out) | exact HB.out)) hb)
                                      have z_HO231 := fun (h0_ : b 2 = true) => (show Kd.R (Kd.int .u8) 5 w61 w.heap.size (fun _ => True) v230 y229 from by first | exact (Kd.R_below (by (with_reducible repeat (first | apply Kd.R_alloc | apply Kd.R_drewN | apply Kd.R_drew)); exact (Q_HO231 h0_)) hb) | exact Kd.R_mono (Kd.R_below (by (with_reducible repeat (first | apply Kd.R_alloc | apply Kd.R_drewN | apply Kd.R_drew)); exact (Q_HO231 h0_)) hb) (fun _ h_ => by first | trivial | exact h_ | exact h_.1))
                                      have z_HO236 := fun (h0_ : b 17 = true) => (show Kd.R (Kd.int .u8) 5 w61 w.heap.size (fun _ => True) v235 y234 from by first | exact (Kd.R_below (by (with_reducible repeat (first | apply Kd.R_alloc | apply Kd.R_drewN | apply Kd.R_drew)); exact (Q_HO236 h0_)) hb) | exact Kd.R_mono (Kd.R_below (by (with_reducible repeat (first | apply Kd.R_alloc | apply Kd.R_drewN | apply Kd.R_drew)); exact (Q_HO236 h0_)) hb) (fun _ h_ => by first | trivial | exact h_ | exact h_.1))
                                      have z_HO240 := fun (h0_ : b 28 = true) => (show Kd.R (Kd.int .u8) 5 w61 w.heap.size (fun _ => True) v239 y238 from by first | exact (Kd.R_below (by (with_reducible repeat (first | apply Kd.R_alloc | apply Kd.R_drewN | apply Kd.R_drew)); exact (Q_HO240 h0_)) hb) | exact Kd.R_mono (Kd.R_below (by (with_reducible repeat (first | apply Kd.R_alloc | apply Kd.R_drewN | apply Kd.R_drew)); exact (Q_HO240 h0_)) hb) (fun _ h_ => by first | trivial | exact h_ | exact h_.1))
                                      clear BK221
                                      clear HB
                                      have BK221 := n0_
                                      have HB := n1_
                                      clear n0_ n1_
                                      (try clear hb)
                                      (try clear hb2)
                                      (try clear hk)
                                      (try clear hi)
                                      refine hK.out _ _ ⟨v230, v235, v239, (by rw [ha.out]; exact putSel_upk 7 hb_ rfl rfl rfl), (by (with_reducible repeat (first | refine blk_drewN ?_ _ | refine blk_drew ?_ | refine blk_alloc ?_ _)); exact BK221.out), (by repeat (first | (with_reducible first | exact HB.out | apply below_alloc | apply pw_below_drewN | apply below_drew1 | refine below_set ?_ GE221.out) | exact HB.out)), z_HO231, z_HO236, z_HO240⟩
                                    refine steps_cons ?_ ?_
                                    · rintro b a w' ⟨v230, v235, v239, ha, Q_BK221, Q_HB, Q_HO231, Q_HO236, Q_HO240⟩ hb_ hon hoff
                                      refine ⟨_, rfl, fun K hK => ?_⟩
                                      have e69 : a.tmps[69]? = some (.string ((strOfNums y229) ++ t232)) := by rw [ha]; exact putSel_on (e := (7, 69, .string ((strOfNums y229) ++ t232))) 5 rfl rfl (hon 7 (by kernel_rfl)) rfl
                                      have e72 : a.tmps[72]? = some (.string t233) := by rw [ha]; exact putSel_on (e := (10, 72, .string t233)) 7 rfl rfl (hon 10 (by kernel_rfl)) rfl
                                      replace ha := Aside0.mk ha
                                      have BK221 := Aside0.mk Q_BK221
                                      have HB := Aside0.mk Q_HB
                                      have HO231 := Aside0.mk (Q_HO231 (hon 2 (by kernel_rfl)))
                                      refine value_ (w1 := w') (v := .string (((strOfNums y229) ++ t232) ++ t233)) (by rfl) rfl ?_ ?_
                                      · go_simp
                                        (try simp only [i64_w])
                                        try first | rfl | assumption | (simp only [ByteArray.size_append] at *; omega)
                                      refine hK.out _ _ ⟨v230, v235, v239, (by rw [ha.out]; exact putSel_upk 8 hb_ rfl rfl rfl), Q_BK221, Q_HB, Q_HO231, Q_HO236, Q_HO240⟩
                                    refine steps_cons ?_ ?_
                                    · rintro b a w' ⟨v230, v235, v239, ha, Q_BK221, Q_HB, Q_HO231, Q_HO236, Q_HO240⟩ hb_ hon hoff
                                      refine ⟨_, rfl, fun K hK => ?_⟩
                                      have e73 : a.tmps[73]? = some (.string (((strOfNums y229) ++ t232) ++ t233)) := by rw [ha]; exact putSel_on (e := (11, 73, .string (((strOfNums y229) ++ t232) ++ t233))) 8 rfl rfl (hon 11 (by kernel_rfl)) rfl
                                      have e74 : a.tmps[74]? = some (.string t223) := by rw [ha]; exact (putSel_off rfl).trans rfl
                                      replace ha := Aside0.mk ha
                                      have BK221 := Aside0.mk Q_BK221
                                      have HB := Aside0.mk Q_HB
                                      have HO231 := Aside0.mk (Q_HO231 (hon 2 (by kernel_rfl)))
                                      refine value_ (w1 := w') (v := .string ((((strOfNums y229) ++ t232) ++ t233) ++ t223)) (by rfl) rfl ?_ ?_
                                      · go_simp
                                        (try simp only [i64_w])
                                        try first | rfl | assumption | (simp only [ByteArray.size_append] at *; omega)
                                      refine hK.out _ _ ⟨v230, v235, v239, (by rw [ha.out]; exact putSel_upk 9 hb_ rfl rfl rfl), Q_BK221, Q_HB, Q_HO231, Q_HO236, Q_HO240⟩
                                    refine steps_cons ?_ ?_
                                    · rintro b a w' ⟨v230, v235, v239, ha, Q_BK221, Q_HB, Q_HO231, Q_HO236, Q_HO240⟩ hb_ hon hoff
                                      refine ⟨_, rfl, fun K hK => ?_⟩
                                      have e76 : a.tmps[76]? = some (.pointer (some ⟨gb221, 5, none⟩)) := by rw [ha]; exact (putSel_off rfl).trans rfl
                                      replace ha := Aside0.mk ha
                                      have BK221 := Aside0.mk Q_BK221
                                      have HB := Aside0.mk Q_HB
                                      have hc0_ : w'.cell? ⟨gb221, 0, none⟩ = some (.string a0_0) := (blk_cell BK221.out 0).trans rfl
                                      have hc1_ : w'.cell? ⟨gb221, 1, none⟩ = some (.int .i64 a0_1) := (blk_cell BK221.out 1).trans rfl
                                      have hc2_ : w'.cell? ⟨gb221, 2, none⟩ = some (.int .i64 a0_2) := (blk_cell BK221.out 2).trans rfl
                                      have hc3_ : w'.cell? ⟨gb221, 3, none⟩ = some (.int .i64 a0_3) := (blk_cell BK221.out 3).trans rfl
                                      have hc4_ : w'.cell? ⟨gb221, 4, none⟩ = some (.int .i64 a0_4) := (blk_cell BK221.out 4).trans rfl
                                      have hc5_ : w'.cell? ⟨gb221, 5, none⟩ = some (.int .i64 a0_5) := (blk_cell BK221.out 5).trans rfl
                                      have hc6_ : w'.cell? ⟨gb221, 6, none⟩ = some (.int .i64 a0_6) := (blk_cell BK221.out 6).trans rfl
                                      have hc7_ : w'.cell? ⟨gb221, 7, none⟩ = some (.string a0_7) := (blk_cell BK221.out 7).trans rfl
                                      refine value_ (w1 := w') (v := .int .i64 a0_5) (by rfl) rfl ?_ ?_
                                      · go_simp
                                        (try simp only [i64_w])
                                        try first | rfl | assumption | (simp only [ByteArray.size_append] at *; omega)
                                      refine hK.out _ _ ⟨v230, v235, v239, (by rw [ha.out]; exact putSel_upk 10 hb_ rfl rfl rfl), Q_BK221, Q_HB, Q_HO231, fun h0_ => absurd ((hoff 17 (by kernel_rfl)).symm.trans h0_) (by decide), Q_HO240⟩
                                    refine steps_cons ?_ ?_
                                    · rintro b a w' ⟨v230, v235, v239, ha, Q_BK221, Q_HB, Q_HO231, Q_HO236, Q_HO240⟩ hb_ hon hoff
                                      refine ⟨_, rfl, fun K hK => ?_⟩
                                      have e77 : a.tmps[77]? = some (.int .i64 a0_5) := by rw [ha]; exact putSel_on (e := (15, 77, .int .i64 a0_5)) 10 rfl rfl (hon 15 (by kernel_rfl)) rfl
                                      replace ha := Aside0.mk ha
                                      have BK221 := Aside0.mk Q_BK221
                                      have HB := Aside0.mk Q_HB
                                      refine value_ (w1 := w') (v := .int .u8 ((a0_5) % 256)) (by rfl) rfl ?_ ?_
                                      · go_simp
                                        (try simp only [i64_w])
                                        try first | rfl | assumption | (simp only [ByteArray.size_append] at *; omega)
                                      refine hK.out _ _ ⟨v230, v235, v239, (by rw [ha.out]; exact putSel_upk 11 hb_ rfl rfl rfl), Q_BK221, Q_HB, Q_HO231, fun h0_ => absurd ((hoff 17 (by kernel_rfl)).symm.trans h0_) (by decide), Q_HO240⟩
                                    refine steps_cons ?_ ?_
                                    · rintro b a w' ⟨v230, v235, v239, ha, Q_BK221, Q_HB, Q_HO231, Q_HO236, Q_HO240⟩ hb_ hon hoff
                                      refine ⟨_, rfl, fun K hK => ?_⟩
                                      have e78 : a.tmps[78]? = some (.int .u8 ((a0_5) % 256)) := by rw [ha]; exact putSel_on (e := (16, 78, .int .u8 ((a0_5) % 256))) 11 rfl rfl (hon 16 (by kernel_rfl)) rfl
                                      replace ha := Aside0.mk ha
                                      have BK221 := Aside0.mk Q_BK221
                                      have HB := Aside0.mk Q_HB
                                      refine Kd.R_lit_step (Kd.int .u8) _ 5 ?hg (N := 79) ?hd (xs := ([(a0_5) % 256, 0, 0] : List Int)) (inner := [.int .u8 ((a0_5) % 256), .int .u8 0, .int .u8 0]) (ok := fun _ => True) (okp := fun _ => True) ?hr ?hp (fun _ hk => hk) trivial (Below.refl _ _) (Nat.le_refl _) (by simp) ?_; (case hd => rfl); (case hg => rfl); (case hr => first | (go_simp; done) | (go_simp; rfl)); (case hp => exact (Reps.one (show Kd.M (Kd.int .u8) _ _ _ ((a0_5) % 256) [.int .u8 ((a0_5) % 256)] from rfl) (Reps.one (show Kd.M (Kd.int .u8) _ _ _ 0 [.int .u8 0] from rfl) (Reps.one (show Kd.M (Kd.int .u8) _ _ _ 0 [.int .u8 0] from rfl) (Reps.none _ _)))))
                                      intro v235 w59 ho60 hb hg_ hnew_
                                      clear hg_ hnew_
                                      (first | rw [← Ny234.out] at ho60 | (simp only [Int.reduceToNat] at ho60; rw [← Ny234.out] at ho60))
                                      have n0_ := Aside0.mk (Kd.R_lower ho60 (below_size (by repeat (first | (with_reducible first | exact HB.out | apply below_alloc | apply pw_below_drewN | apply below_drew1 | refine below_set ?_ GE221.out) | exact HB.out))))
                                      have n1_ := Aside0.mk (blk_below (g := gb221) (o := .cells #[.string a0_0, .int .i64 a0_1, .int .i64 a0_2, .int .i64 a0_3, .int .i64 a0_4, .int .i64 a0_5, .int .i64 a0_6, .string a0_7] 23 (0, 0)) (by (with_reducible repeat (first | refine blk_drewN ?_ _ | refine blk_drew ?_ | refine blk_alloc ?_ _)); exact BK221.out) hb)
                                      have n2_ := Aside0.mk (below_step (by repeat (first | (with_reducible first | exact HB.out | apply below_alloc | apply pw_below_drewN | apply below_drew1 | refine below_set ?_ GE221.out) | exact HB.out)) hb)
                                      have z_HO231 := fun (h0_ : b 2 = true) => (show Kd.R (Kd.int .u8) 5 w59 w.heap.size (fun _ => True) v230 y229 from by first | exact (Kd.R_elder' (by (with_reducible repeat (first | apply Kd.R_alloc | apply Kd.R_drewN | apply Kd.R_drew)); exact (Q_HO231 h0_)) (Kd.R_base ho60) hb) | exact Kd.R_mono (Kd.R_elder' (by (with_reducible repeat (first | apply Kd.R_alloc | apply Kd.R_drewN | apply Kd.R_drew)); exact (Q_HO231 h0_)) (Kd.R_base ho60) hb) (fun _ h_ => by first | trivial | exact h_ | exact h_.1))
                                      have z_HO240 := fun (h0_ : b 28 = true) => (show Kd.R (Kd.int .u8) 5 w59 w.heap.size (fun _ => True) v239 y238 from by first | exact (Kd.R_elder' (by (with_reducible repeat (first | apply Kd.R_alloc | apply Kd.R_drewN | apply Kd.R_drew)); exact (Q_HO240 h0_)) (Kd.R_base ho60) hb) | exact Kd.R_mono (Kd.R_elder' (by (with_reducible repeat (first | apply Kd.R_alloc | apply Kd.R_drewN | apply Kd.R_drew)); exact (Q_HO240 h0_)) (Kd.R_base ho60) hb) (fun _ h_ => by first | trivial | exact h_ | exact h_.1))
                                      clear BK221
                                      clear HB
                                      have HO236 := n0_
                                      have BK221 := n1_
                                      have HB := n2_
                                      clear n0_ n1_ n2_
                                      clear hb ho60
                                      refine hK.out _ _ ⟨v230, v235, v239, (by rw [ha.out]; exact putSel_upk 12 hb_ rfl rfl rfl), (by (with_reducible repeat (first | refine blk_drewN ?_ _ | refine blk_drew ?_ | refine blk_alloc ?_ _)); exact BK221.out), (by repeat (first | (with_reducible first | exact HB.out | apply below_alloc | apply pw_below_drewN | apply below_drew1 | refine below_set ?_ GE221.out) | exact HB.out)), z_HO231, fun _ => (by (with_reducible repeat (first | apply Kd.R_alloc | apply Kd.R_drewN | apply Kd.R_drew)); exact HO236.out), z_HO240⟩
                                    refine steps_cons ?_ ?_
                                    · rintro b a w' ⟨v230, v235, v239, ha, Q_BK221, Q_HB, Q_HO231, Q_HO236, Q_HO240⟩ hb_ hon hoff
                                      refine ⟨_, rfl, fun K hK => ?_⟩
                                      have e79 : a.tmps[79]? = some (v235) := by rw [ha]; exact putSel_on (e := (17, 79, v235)) 12 rfl rfl (hon 17 (by kernel_rfl)) rfl
                                      replace ha := Aside0.mk ha
                                      have BK221 := Aside0.mk Q_BK221
                                      have HB := Aside0.mk Q_HB
                                      have HO236 := Aside0.mk (Q_HO236 (hon 17 (by kernel_rfl)))
                                      have hcv_ := own_string (P := Try.prog) Try.underlying37 Try.underlying5 Try.underlying9 (Kd.own_of_R HO236.out)
                                      obtain ⟨Ao18_0, co18_0, eo_⟩ := Kd.R_slice HO236.out
                                      subst eo_
                                      refine value_ (w1 := w') (v := .string (strOfNums y234)) (by rfl) rfl ?_ ?_
                                      · go_simp
                                        (try simp only [i64_w])
                                        try first | rfl | assumption | (simp only [ByteArray.size_append] at *; omega)
                                      refine hK.out _ _ ⟨v230, .slice Ao18_0 y234.length co18_0, v239, (by rw [ha.out]; exact putSel_upk 13 hb_ rfl rfl rfl), Q_BK221, Q_HB, Q_HO231, Q_HO236, Q_HO240⟩
                                    refine steps_cons ?_ ?_
                                    · rintro b a w' ⟨v230, v235, v239, ha, Q_BK221, Q_HB, Q_HO231, Q_HO236, Q_HO240⟩ hb_ hon hoff
                                      refine ⟨_, rfl, fun K hK => ?_⟩
                                      have e75 : a.tmps[75]? = some (.string ((((strOfNums y229) ++ t232) ++ t233) ++ t223)) := by rw [ha]; exact putSel_on (e := (13, 75, .string ((((strOfNums y229) ++ t232) ++ t233) ++ t223))) 9 rfl rfl (hon 13 (by kernel_rfl)) rfl
                                      have e80 : a.tmps[80]? = some (.string (strOfNums y234)) := by rw [ha]; exact putSel_on (e := (18, 80, .string (strOfNums y234))) 13 rfl rfl (hon 18 (by kernel_rfl)) rfl
                                      replace ha := Aside0.mk ha
                                      have BK221 := Aside0.mk Q_BK221
                                      have HB := Aside0.mk Q_HB
                                      have HO231 := Aside0.mk (Q_HO231 (hon 2 (by kernel_rfl)))
                                      have HO236 := Aside0.mk (Q_HO236 (hon 17 (by kernel_rfl)))
                                      refine value_ (w1 := w') (v := .string (((((strOfNums y229) ++ t232) ++ t233) ++ t223) ++ (strOfNums y234))) (by rfl) rfl ?_ ?_
                                      · go_simp
                                        (try simp only [i64_w])
                                        try first | rfl | assumption | (simp only [ByteArray.size_append] at *; omega)
                                      refine hK.out _ _ ⟨v230, v235, v239, (by rw [ha.out]; exact putSel_upk 14 hb_ rfl rfl rfl), Q_BK221, Q_HB, Q_HO231, Q_HO236, Q_HO240⟩
                                    refine steps_cons ?_ ?_
                                    · rintro b a w' ⟨v230, v235, v239, ha, Q_BK221, Q_HB, Q_HO231, Q_HO236, Q_HO240⟩ hb_ hon hoff
                                      refine ⟨_, rfl, fun K hK => ?_⟩
                                      have e82 : a.tmps[82]? = some (.pointer (some ⟨gb221, 6, none⟩)) := by rw [ha]; exact (putSel_off rfl).trans rfl
                                      replace ha := Aside0.mk ha
                                      have BK221 := Aside0.mk Q_BK221
                                      have HB := Aside0.mk Q_HB
                                      have hc0_ : w'.cell? ⟨gb221, 0, none⟩ = some (.string a0_0) := (blk_cell BK221.out 0).trans rfl
                                      have hc1_ : w'.cell? ⟨gb221, 1, none⟩ = some (.int .i64 a0_1) := (blk_cell BK221.out 1).trans rfl
                                      have hc2_ : w'.cell? ⟨gb221, 2, none⟩ = some (.int .i64 a0_2) := (blk_cell BK221.out 2).trans rfl
                                      have hc3_ : w'.cell? ⟨gb221, 3, none⟩ = some (.int .i64 a0_3) := (blk_cell BK221.out 3).trans rfl
                                      have hc4_ : w'.cell? ⟨gb221, 4, none⟩ = some (.int .i64 a0_4) := (blk_cell BK221.out 4).trans rfl
                                      have hc5_ : w'.cell? ⟨gb221, 5, none⟩ = some (.int .i64 a0_5) := (blk_cell BK221.out 5).trans rfl
                                      have hc6_ : w'.cell? ⟨gb221, 6, none⟩ = some (.int .i64 a0_6) := (blk_cell BK221.out 6).trans rfl
                                      have hc7_ : w'.cell? ⟨gb221, 7, none⟩ = some (.string a0_7) := (blk_cell BK221.out 7).trans rfl
                                      refine value_ (w1 := w') (v := .int .i64 a0_6) (by rfl) rfl ?_ ?_
                                      · go_simp
                                        (try simp only [i64_w])
                                        try first | rfl | assumption | (simp only [ByteArray.size_append] at *; omega)
                                      refine hK.out _ _ ⟨v230, v235, v239, (by rw [ha.out]; exact putSel_upk 15 hb_ rfl rfl rfl), Q_BK221, Q_HB, Q_HO231, Q_HO236, Q_HO240⟩
                                    refine steps_cons ?_ ?_
                                    · rintro b a w' ⟨v230, v235, v239, ha, Q_BK221, Q_HB, Q_HO231, Q_HO236, Q_HO240⟩ hb_ hon hoff
                                      refine ⟨_, rfl, fun K hK => ?_⟩
                                      have e83 : a.tmps[83]? = some (.int .i64 a0_6) := by rw [ha]; exact putSel_on (e := (21, 83, .int .i64 a0_6)) 15 rfl rfl (hon 21 (by kernel_rfl)) rfl
                                      replace ha := Aside0.mk ha
                                      have BK221 := Aside0.mk Q_BK221
                                      have HB := Aside0.mk Q_HB
                                      refine goes_ Try.func30 (by kernel_rfl) rfl #[.int .i64 a0_6, .int .i64 2] (by rfl) rfl rfl (by first | (simp only [List.map_toArray, List.map_cons, List.map_nil, Act.eval, Array.getD_eq_getD_getElem?, Option.getD_some, e83]; done) | (simp only [List.map_toArray, List.map_cons, List.map_nil, Act.eval, Array.getD_eq_getD_getElem?, Option.getD_some, e83]; rfl)) ?_
                                      with_reducible refine (masterdiscref20_both.calls kj11 a0_6 2 t237 _ A35.out).mono ?_
                                      rintro e w62 ⟨rfl, hb⟩
                                      refine ⟨_, rfl, ?_⟩
                                      have n0_ := Aside0.mk (blk_below (g := gb221) (o := .cells #[.string a0_0, .int .i64 a0_1, .int .i64 a0_2, .int .i64 a0_3, .int .i64 a0_4, .int .i64 a0_5, .int .i64 a0_6, .string a0_7] 23 (0, 0)) (by (with_reducible repeat (first | refine blk_drewN ?_ _ | refine blk_drew ?_ | refine blk_alloc ?_ _)); exact BK221.out) hb)
                                      have n1_ := Aside0.mk (below_step (by repeat (first | (with_reducible first | exact HB.out | apply below_alloc | apply pw_below_drewN | apply below_drew1 | refine below_set ?_ GE221.out) | exact HB.out)) hb)
                                      have z_HO231 := fun (h0_ : b 2 = true) => (show Kd.R (Kd.int .u8) 5 w62 w.heap.size (fun _ => True) v230 y229 from by first | exact (Kd.R_below (by (with_reducible repeat (first | apply Kd.R_alloc | apply Kd.R_drewN | apply Kd.R_drew)); exact (Q_HO231 h0_)) hb) | exact Kd.R_mono (Kd.R_below (by (with_reducible repeat (first | apply Kd.R_alloc | apply Kd.R_drewN | apply Kd.R_drew)); exact (Q_HO231 h0_)) hb) (fun _ h_ => by first | trivial | exact h_ | exact h_.1))
                                      have z_HO236 := fun (h0_ : b 17 = true) => (show Kd.R (Kd.int .u8) 5 w62 w.heap.size (fun _ => True) v235 y234 from by first | exact (Kd.R_below (by (with_reducible repeat (first | apply Kd.R_alloc | apply Kd.R_drewN | apply Kd.R_drew)); exact (Q_HO236 h0_)) hb) | exact Kd.R_mono (Kd.R_below (by (with_reducible repeat (first | apply Kd.R_alloc | apply Kd.R_drewN | apply Kd.R_drew)); exact (Q_HO236 h0_)) hb) (fun _ h_ => by first | trivial | exact h_ | exact h_.1))
                                      have z_HO240 := fun (h0_ : b 28 = true) => (show Kd.R (Kd.int .u8) 5 w62 w.heap.size (fun _ => True) v239 y238 from by first | exact (Kd.R_below (by (with_reducible repeat (first | apply Kd.R_alloc | apply Kd.R_drewN | apply Kd.R_drew)); exact (Q_HO240 h0_)) hb) | exact Kd.R_mono (Kd.R_below (by (with_reducible repeat (first | apply Kd.R_alloc | apply Kd.R_drewN | apply Kd.R_drew)); exact (Q_HO240 h0_)) hb) (fun _ h_ => by first | trivial | exact h_ | exact h_.1))
                                      clear BK221
                                      clear HB
                                      have BK221 := n0_
                                      have HB := n1_
                                      clear n0_ n1_
                                      (try clear hb)
                                      (try clear hb2)
                                      (try clear hk)
                                      (try clear hi)
                                      refine hK.out _ _ ⟨v230, v235, v239, (by rw [ha.out]; exact putSel_upk 16 hb_ rfl rfl rfl), (by (with_reducible repeat (first | refine blk_drewN ?_ _ | refine blk_drew ?_ | refine blk_alloc ?_ _)); exact BK221.out), (by repeat (first | (with_reducible first | exact HB.out | apply below_alloc | apply pw_below_drewN | apply below_drew1 | refine below_set ?_ GE221.out) | exact HB.out)), z_HO231, z_HO236, z_HO240⟩
                                    refine steps_cons ?_ ?_
                                    · rintro b a w' ⟨v230, v235, v239, ha, Q_BK221, Q_HB, Q_HO231, Q_HO236, Q_HO240⟩ hb_ hon hoff
                                      refine ⟨_, rfl, fun K hK => ?_⟩
                                      have e81 : a.tmps[81]? = some (.string (((((strOfNums y229) ++ t232) ++ t233) ++ t223) ++ (strOfNums y234))) := by rw [ha]; exact putSel_on (e := (19, 81, .string (((((strOfNums y229) ++ t232) ++ t233) ++ t223) ++ (strOfNums y234)))) 14 rfl rfl (hon 19 (by kernel_rfl)) rfl
                                      have e84 : a.tmps[84]? = some (.string t237) := by rw [ha]; exact putSel_on (e := (22, 84, .string t237)) 16 rfl rfl (hon 22 (by kernel_rfl)) rfl
                                      replace ha := Aside0.mk ha
                                      have BK221 := Aside0.mk Q_BK221
                                      have HB := Aside0.mk Q_HB
                                      have HO231 := Aside0.mk (Q_HO231 (hon 2 (by kernel_rfl)))
                                      have HO236 := Aside0.mk (Q_HO236 (hon 17 (by kernel_rfl)))
                                      refine value_ (w1 := w') (v := .string ((((((strOfNums y229) ++ t232) ++ t233) ++ t223) ++ (strOfNums y234)) ++ t237)) (by rfl) rfl ?_ ?_
                                      · go_simp
                                        (try simp only [i64_w])
                                        try first | rfl | assumption | (simp only [ByteArray.size_append] at *; omega)
                                      refine hK.out _ _ ⟨v230, v235, v239, (by rw [ha.out]; exact putSel_upk 17 hb_ rfl rfl rfl), Q_BK221, Q_HB, Q_HO231, Q_HO236, Q_HO240⟩
                                    refine steps_cons ?_ ?_
                                    · rintro b a w' ⟨v230, v235, v239, ha, Q_BK221, Q_HB, Q_HO231, Q_HO236, Q_HO240⟩ hb_ hon hoff
                                      refine ⟨_, rfl, fun K hK => ?_⟩
                                      have e86 : a.tmps[86]? = some (.pointer (some ⟨gb221, 0, none⟩)) := by rw [ha]; exact (putSel_off rfl).trans rfl
                                      replace ha := Aside0.mk ha
                                      have BK221 := Aside0.mk Q_BK221
                                      have HB := Aside0.mk Q_HB
                                      have hc0_ : w'.cell? ⟨gb221, 0, none⟩ = some (.string a0_0) := (blk_cell BK221.out 0).trans rfl
                                      have hc1_ : w'.cell? ⟨gb221, 1, none⟩ = some (.int .i64 a0_1) := (blk_cell BK221.out 1).trans rfl
                                      have hc2_ : w'.cell? ⟨gb221, 2, none⟩ = some (.int .i64 a0_2) := (blk_cell BK221.out 2).trans rfl
                                      have hc3_ : w'.cell? ⟨gb221, 3, none⟩ = some (.int .i64 a0_3) := (blk_cell BK221.out 3).trans rfl
                                      have hc4_ : w'.cell? ⟨gb221, 4, none⟩ = some (.int .i64 a0_4) := (blk_cell BK221.out 4).trans rfl
                                      have hc5_ : w'.cell? ⟨gb221, 5, none⟩ = some (.int .i64 a0_5) := (blk_cell BK221.out 5).trans rfl
                                      have hc6_ : w'.cell? ⟨gb221, 6, none⟩ = some (.int .i64 a0_6) := (blk_cell BK221.out 6).trans rfl
                                      have hc7_ : w'.cell? ⟨gb221, 7, none⟩ = some (.string a0_7) := (blk_cell BK221.out 7).trans rfl
                                      refine value_ (w1 := w') (v := .string a0_0) (by rfl) rfl ?_ ?_
                                      · go_simp
                                        (try simp only [i64_w])
                                        try first | rfl | assumption | (simp only [ByteArray.size_append] at *; omega)
                                      refine hK.out _ _ ⟨v230, v235, v239, (by rw [ha.out]; exact putSel_upk 18 hb_ rfl rfl rfl), Q_BK221, Q_HB, Q_HO231, Q_HO236, fun h0_ => absurd ((hoff 28 (by kernel_rfl)).symm.trans h0_) (by decide)⟩
                                    refine steps_cons ?_ ?_
                                    · rintro b a w' ⟨v230, v235, v239, ha, Q_BK221, Q_HB, Q_HO231, Q_HO236, Q_HO240⟩ hb_ hon hoff
                                      refine ⟨_, rfl, fun K hK => ?_⟩
                                      have e87 : a.tmps[87]? = some (.string a0_0) := by rw [ha]; exact putSel_on (e := (25, 87, .string a0_0)) 18 rfl rfl (hon 25 (by kernel_rfl)) rfl
                                      replace ha := Aside0.mk ha
                                      have BK221 := Aside0.mk Q_BK221
                                      have HB := Aside0.mk Q_HB
                                      refine value_ (w1 := w') (v := .int .i64 (a0_0.size : Int)) (by rfl) rfl ?_ ?_
                                      · go_simp
                                        (try simp only [i64_w])
                                        try first | rfl | assumption | (simp only [ByteArray.size_append] at *; omega)
                                      refine hK.out _ _ ⟨v230, v235, v239, (by rw [ha.out]; exact putSel_upk 19 hb_ rfl rfl rfl), Q_BK221, Q_HB, Q_HO231, Q_HO236, fun h0_ => absurd ((hoff 28 (by kernel_rfl)).symm.trans h0_) (by decide)⟩
                                    refine steps_cons ?_ ?_
                                    · rintro b a w' ⟨v230, v235, v239, ha, Q_BK221, Q_HB, Q_HO231, Q_HO236, Q_HO240⟩ hb_ hon hoff
                                      refine ⟨_, rfl, fun K hK => ?_⟩
                                      have e88 : a.tmps[88]? = some (.int .i64 (a0_0.size : Int)) := by rw [ha]; exact putSel_on (e := (26, 88, .int .i64 (a0_0.size : Int))) 19 rfl rfl (hon 26 (by kernel_rfl)) rfl
                                      replace ha := Aside0.mk ha
                                      have BK221 := Aside0.mk Q_BK221
                                      have HB := Aside0.mk Q_HB
                                      refine value_ (w1 := w') (v := .int .u8 (((a0_0.size : Int)) % 256)) (by rfl) rfl ?_ ?_
                                      · go_simp
                                        (try simp only [i64_w])
                                        try first | rfl | assumption | (simp only [ByteArray.size_append] at *; omega)
                                      refine hK.out _ _ ⟨v230, v235, v239, (by rw [ha.out]; exact putSel_upk 20 hb_ rfl rfl rfl), Q_BK221, Q_HB, Q_HO231, Q_HO236, fun h0_ => absurd ((hoff 28 (by kernel_rfl)).symm.trans h0_) (by decide)⟩
                                    refine steps_cons ?_ ?_
                                    · rintro b a w' ⟨v230, v235, v239, ha, Q_BK221, Q_HB, Q_HO231, Q_HO236, Q_HO240⟩ hb_ hon hoff
                                      refine ⟨_, rfl, fun K hK => ?_⟩
                                      have e89 : a.tmps[89]? = some (.int .u8 (((a0_0.size : Int)) % 256)) := by rw [ha]; exact putSel_on (e := (27, 89, .int .u8 (((a0_0.size : Int)) % 256))) 20 rfl rfl (hon 27 (by kernel_rfl)) rfl
                                      replace ha := Aside0.mk ha
                                      have BK221 := Aside0.mk Q_BK221
                                      have HB := Aside0.mk Q_HB
                                      refine Kd.R_lit_step (Kd.int .u8) _ 5 ?hg (N := 90) ?hd (xs := ([((a0_0.size : Int)) % 256] : List Int)) (inner := [.int .u8 (((a0_0.size : Int)) % 256)]) (ok := fun _ => True) (okp := fun _ => True) ?hr ?hp (fun _ hk => hk) trivial (Below.refl _ _) (Nat.le_refl _) (by simp) ?_; (case hd => rfl); (case hg => rfl); (case hr => first | (go_simp; done) | (go_simp; rfl)); (case hp => exact (Reps.one (show Kd.M (Kd.int .u8) _ _ _ (((a0_0.size : Int)) % 256) [.int .u8 (((a0_0.size : Int)) % 256)] from rfl) (Reps.none _ _)))
                                      intro v239 w59 ho60 hb hg_ hnew_
                                      clear hg_ hnew_
                                      (first | rw [← Ny238.out] at ho60 | (simp only [Int.reduceToNat] at ho60; rw [← Ny238.out] at ho60))
                                      have n0_ := Aside0.mk (Kd.R_lower ho60 (below_size (by repeat (first | (with_reducible first | exact HB.out | apply below_alloc | apply pw_below_drewN | apply below_drew1 | refine below_set ?_ GE221.out) | exact HB.out))))
                                      have n1_ := Aside0.mk (blk_below (g := gb221) (o := .cells #[.string a0_0, .int .i64 a0_1, .int .i64 a0_2, .int .i64 a0_3, .int .i64 a0_4, .int .i64 a0_5, .int .i64 a0_6, .string a0_7] 23 (0, 0)) (by (with_reducible repeat (first | refine blk_drewN ?_ _ | refine blk_drew ?_ | refine blk_alloc ?_ _)); exact BK221.out) hb)
                                      have n2_ := Aside0.mk (below_step (by repeat (first | (with_reducible first | exact HB.out | apply below_alloc | apply pw_below_drewN | apply below_drew1 | refine below_set ?_ GE221.out) | exact HB.out)) hb)
                                      have z_HO231 := fun (h0_ : b 2 = true) => (show Kd.R (Kd.int .u8) 5 w59 w.heap.size (fun _ => True) v230 y229 from by first | exact (Kd.R_elder' (by (with_reducible repeat (first | apply Kd.R_alloc | apply Kd.R_drewN | apply Kd.R_drew)); exact (Q_HO231 h0_)) (Kd.R_base ho60) hb) | exact Kd.R_mono (Kd.R_elder' (by (with_reducible repeat (first | apply Kd.R_alloc | apply Kd.R_drewN | apply Kd.R_drew)); exact (Q_HO231 h0_)) (Kd.R_base ho60) hb) (fun _ h_ => by first | trivial | exact h_ | exact h_.1))
                                      have z_HO236 := fun (h0_ : b 17 = true) => (show Kd.R (Kd.int .u8) 5 w59 w.heap.size (fun _ => True) v235 y234 from by first | exact (Kd.R_elder' (by (with_reducible repeat (first | apply Kd.R_alloc | apply Kd.R_drewN | apply Kd.R_drew)); exact (Q_HO236 h0_)) (Kd.R_base ho60) hb) | exact Kd.R_mono (Kd.R_elder' (by (with_reducible repeat (first | apply Kd.R_alloc | apply Kd.R_drewN | apply Kd.R_drew)); exact (Q_HO236 h0_)) (Kd.R_base ho60) hb) (fun _ h_ => by first | trivial | exact h_ | exact h_.1))
                                      clear BK221
                                      clear HB
                                      have HO240 := n0_
                                      have BK221 := n1_
                                      have HB := n2_
                                      clear n0_ n1_ n2_
                                      clear hb ho60
                                      refine hK.out _ _ ⟨v230, v235, v239, (by rw [ha.out]; exact putSel_upk 21 hb_ rfl rfl rfl), (by (with_reducible repeat (first | refine blk_drewN ?_ _ | refine blk_drew ?_ | refine blk_alloc ?_ _)); exact BK221.out), (by repeat (first | (with_reducible first | exact HB.out | apply below_alloc | apply pw_below_drewN | apply below_drew1 | refine below_set ?_ GE221.out) | exact HB.out)), z_HO231, z_HO236, fun _ => (by (with_reducible repeat (first | apply Kd.R_alloc | apply Kd.R_drewN | apply Kd.R_drew)); exact HO240.out)⟩
                                    refine steps_cons ?_ ?_
                                    · rintro b a w' ⟨v230, v235, v239, ha, Q_BK221, Q_HB, Q_HO231, Q_HO236, Q_HO240⟩ hb_ hon hoff
                                      refine ⟨_, rfl, fun K hK => ?_⟩
                                      have e90 : a.tmps[90]? = some (v239) := by rw [ha]; exact putSel_on (e := (28, 90, v239)) 21 rfl rfl (hon 28 (by kernel_rfl)) rfl
                                      replace ha := Aside0.mk ha
                                      have BK221 := Aside0.mk Q_BK221
                                      have HB := Aside0.mk Q_HB
                                      have HO240 := Aside0.mk (Q_HO240 (hon 28 (by kernel_rfl)))
                                      have hcv_ := own_string (P := Try.prog) Try.underlying37 Try.underlying5 Try.underlying9 (Kd.own_of_R HO240.out)
                                      obtain ⟨Ao29_0, co29_0, eo_⟩ := Kd.R_slice HO240.out
                                      subst eo_
                                      refine value_ (w1 := w') (v := .string (strOfNums y238)) (by rfl) rfl ?_ ?_
                                      · go_simp
                                        (try simp only [i64_w])
                                        try first | rfl | assumption | (simp only [ByteArray.size_append] at *; omega)
                                      refine hK.out _ _ ⟨v230, v235, .slice Ao29_0 y238.length co29_0, (by rw [ha.out]; exact putSel_upk 22 hb_ rfl rfl rfl), Q_BK221, Q_HB, Q_HO231, Q_HO236, Q_HO240⟩
                                    refine steps_cons ?_ ?_
                                    · rintro b a w' ⟨v230, v235, v239, ha, Q_BK221, Q_HB, Q_HO231, Q_HO236, Q_HO240⟩ hb_ hon hoff
                                      refine ⟨_, rfl, fun K hK => ?_⟩
                                      have e85 : a.tmps[85]? = some (.string ((((((strOfNums y229) ++ t232) ++ t233) ++ t223) ++ (strOfNums y234)) ++ t237)) := by rw [ha]; exact putSel_on (e := (23, 85, .string ((((((strOfNums y229) ++ t232) ++ t233) ++ t223) ++ (strOfNums y234)) ++ t237))) 17 rfl rfl (hon 23 (by kernel_rfl)) rfl
                                      have e91 : a.tmps[91]? = some (.string (strOfNums y238)) := by rw [ha]; exact putSel_on (e := (29, 91, .string (strOfNums y238))) 22 rfl rfl (hon 29 (by kernel_rfl)) rfl
                                      replace ha := Aside0.mk ha
                                      have BK221 := Aside0.mk Q_BK221
                                      have HB := Aside0.mk Q_HB
                                      have HO231 := Aside0.mk (Q_HO231 (hon 2 (by kernel_rfl)))
                                      have HO236 := Aside0.mk (Q_HO236 (hon 17 (by kernel_rfl)))
                                      have HO240 := Aside0.mk (Q_HO240 (hon 28 (by kernel_rfl)))
                                      refine value_ (w1 := w') (v := .string (((((((strOfNums y229) ++ t232) ++ t233) ++ t223) ++ (strOfNums y234)) ++ t237) ++ (strOfNums y238))) (by rfl) rfl ?_ ?_
                                      · go_simp
                                        (try simp only [i64_w])
                                        try first | rfl | assumption | (simp only [ByteArray.size_append] at *; omega)
                                      refine hK.out _ _ ⟨v230, v235, v239, (by rw [ha.out]; exact putSel_upk 23 hb_ rfl rfl rfl), Q_BK221, Q_HB, Q_HO231, Q_HO236, Q_HO240⟩
                                    refine steps_cons ?_ ?_
                                    · rintro b a w' ⟨v230, v235, v239, ha, Q_BK221, Q_HB, Q_HO231, Q_HO236, Q_HO240⟩ hb_ hon hoff
                                      refine ⟨_, rfl, fun K hK => ?_⟩
                                      have e93 : a.tmps[93]? = some (.pointer (some ⟨gb221, 0, none⟩)) := by rw [ha]; exact (putSel_off rfl).trans rfl
                                      replace ha := Aside0.mk ha
                                      have BK221 := Aside0.mk Q_BK221
                                      have HB := Aside0.mk Q_HB
                                      have hc0_ : w'.cell? ⟨gb221, 0, none⟩ = some (.string a0_0) := (blk_cell BK221.out 0).trans rfl
                                      have hc1_ : w'.cell? ⟨gb221, 1, none⟩ = some (.int .i64 a0_1) := (blk_cell BK221.out 1).trans rfl
                                      have hc2_ : w'.cell? ⟨gb221, 2, none⟩ = some (.int .i64 a0_2) := (blk_cell BK221.out 2).trans rfl
                                      have hc3_ : w'.cell? ⟨gb221, 3, none⟩ = some (.int .i64 a0_3) := (blk_cell BK221.out 3).trans rfl
                                      have hc4_ : w'.cell? ⟨gb221, 4, none⟩ = some (.int .i64 a0_4) := (blk_cell BK221.out 4).trans rfl
                                      have hc5_ : w'.cell? ⟨gb221, 5, none⟩ = some (.int .i64 a0_5) := (blk_cell BK221.out 5).trans rfl
                                      have hc6_ : w'.cell? ⟨gb221, 6, none⟩ = some (.int .i64 a0_6) := (blk_cell BK221.out 6).trans rfl
                                      have hc7_ : w'.cell? ⟨gb221, 7, none⟩ = some (.string a0_7) := (blk_cell BK221.out 7).trans rfl
                                      refine value_ (w1 := w') (v := .string a0_0) (by rfl) rfl ?_ ?_
                                      · go_simp
                                        (try simp only [i64_w])
                                        try first | rfl | assumption | (simp only [ByteArray.size_append] at *; omega)
                                      refine hK.out _ _ ⟨v230, v235, v239, (by rw [ha.out]; exact putSel_upk 24 hb_ rfl rfl rfl), Q_BK221, Q_HB, Q_HO231, Q_HO236, Q_HO240⟩
                                    refine steps_cons ?_ ?_
                                    · rintro b a w' ⟨v230, v235, v239, ha, Q_BK221, Q_HB, Q_HO231, Q_HO236, Q_HO240⟩ hb_ hon hoff
                                      refine ⟨_, rfl, fun K hK => ?_⟩
                                      have e92 : a.tmps[92]? = some (.string (((((((strOfNums y229) ++ t232) ++ t233) ++ t223) ++ (strOfNums y234)) ++ t237) ++ (strOfNums y238))) := by rw [ha]; exact putSel_on (e := (30, 92, .string (((((((strOfNums y229) ++ t232) ++ t233) ++ t223) ++ (strOfNums y234)) ++ t237) ++ (strOfNums y238)))) 23 rfl rfl (hon 30 (by kernel_rfl)) rfl
                                      have e94 : a.tmps[94]? = some (.string a0_0) := by rw [ha]; exact putSel_on (e := (32, 94, .string a0_0)) 24 rfl rfl (hon 32 (by kernel_rfl)) rfl
                                      replace ha := Aside0.mk ha
                                      have BK221 := Aside0.mk Q_BK221
                                      have HB := Aside0.mk Q_HB
                                      have HO231 := Aside0.mk (Q_HO231 (hon 2 (by kernel_rfl)))
                                      have HO236 := Aside0.mk (Q_HO236 (hon 17 (by kernel_rfl)))
                                      have HO240 := Aside0.mk (Q_HO240 (hon 28 (by kernel_rfl)))
                                      refine value_ (w1 := w') (v := .string ((((((((strOfNums y229) ++ t232) ++ t233) ++ t223) ++ (strOfNums y234)) ++ t237) ++ (strOfNums y238)) ++ a0_0)) (by rfl) rfl ?_ ?_
                                      · go_simp
                                        (try simp only [i64_w])
                                        try first | rfl | assumption | (simp only [ByteArray.size_append] at *; omega)
                                      refine hK.out _ _ ⟨v230, v235, v239, (by rw [ha.out]; exact putSel_upk 25 hb_ rfl rfl rfl), Q_BK221, Q_HB, Q_HO231, Q_HO236, Q_HO240⟩
                                    refine steps_cons ?_ ?_
                                    · rintro b a w' ⟨v230, v235, v239, ha, Q_BK221, Q_HB, Q_HO231, Q_HO236, Q_HO240⟩ hb_ hon hoff
                                      refine ⟨_, rfl, fun K hK => ?_⟩
                                      have e95 : a.tmps[95]? = some (.string ((((((((strOfNums y229) ++ t232) ++ t233) ++ t223) ++ (strOfNums y234)) ++ t237) ++ (strOfNums y238)) ++ a0_0)) := by rw [ha]; exact putSel_on (e := (33, 95, .string ((((((((strOfNums y229) ++ t232) ++ t233) ++ t223) ++ (strOfNums y234)) ++ t237) ++ (strOfNums y238)) ++ a0_0))) 25 rfl rfl (hon 33 (by kernel_rfl)) rfl
                                      replace ha := Aside0.mk ha
                                      have BK221 := Aside0.mk Q_BK221
                                      have HB := Aside0.mk Q_HB
                                      have HO231 := Aside0.mk (Q_HO231 (hon 2 (by kernel_rfl)))
                                      have HO236 := Aside0.mk (Q_HO236 (hon 17 (by kernel_rfl)))
                                      have HO240 := Aside0.mk (Q_HO240 (hon 28 (by kernel_rfl)))
                                      refine value_ (w1 := w') (v := .string ((((((((strOfNums y229) ++ t232) ++ t233) ++ t223) ++ (strOfNums y234)) ++ t237) ++ (strOfNums y238)) ++ a0_0)) (by rfl) rfl ?_ ?_
                                      · go_simp
                                        (try simp only [i64_w])
                                        try first | rfl | assumption | (simp only [ByteArray.size_append] at *; omega)
                                      refine hK.out _ _ ⟨v230, v235, v239, (by rw [ha.out]; exact putSel_upk 26 hb_ rfl rfl rfl), Q_BK221, Q_HB, Q_HO231, Q_HO236, Q_HO240⟩
                                    exact steps_nil
                                  rintro b a w68 hall ⟨v230, v235, v239, ha, Q_BK221, Q_HB, Q_HO231, Q_HO236, Q_HO240⟩
                                  clear BK221 HB
                                  have hb1_ := hall 1 (by kernel_rfl)
                                  have hb2_ := hall 2 (by kernel_rfl)
                                  have hb3_ := hall 3 (by kernel_rfl)
                                  have hb5_ := hall 5 (by kernel_rfl)
                                  have hb6_ := hall 6 (by kernel_rfl)
                                  have hb7_ := hall 7 (by kernel_rfl)
                                  have hb9_ := hall 9 (by kernel_rfl)
                                  have hb10_ := hall 10 (by kernel_rfl)
                                  have hb11_ := hall 11 (by kernel_rfl)
                                  have hb13_ := hall 13 (by kernel_rfl)
                                  have hb15_ := hall 15 (by kernel_rfl)
                                  have hb16_ := hall 16 (by kernel_rfl)
                                  have hb17_ := hall 17 (by kernel_rfl)
                                  have hb18_ := hall 18 (by kernel_rfl)
                                  have hb19_ := hall 19 (by kernel_rfl)
                                  have hb21_ := hall 21 (by kernel_rfl)
                                  have hb22_ := hall 22 (by kernel_rfl)
                                  have hb23_ := hall 23 (by kernel_rfl)
                                  have hb25_ := hall 25 (by kernel_rfl)
                                  have hb26_ := hall 26 (by kernel_rfl)
                                  have hb27_ := hall 27 (by kernel_rfl)
                                  have hb28_ := hall 28 (by kernel_rfl)
                                  have hb29_ := hall 29 (by kernel_rfl)
                                  have hb30_ := hall 30 (by kernel_rfl)
                                  have hb32_ := hall 32 (by kernel_rfl)
                                  have hb33_ := hall 33 (by kernel_rfl)
                                  have hb34_ := hall 34 (by kernel_rfl)
                                  subst ha
                                  simp only [putSel, hb1_, hb2_, hb3_, hb5_, hb6_, hb7_, hb9_, hb10_, hb11_, hb13_, hb15_, hb16_, hb17_, hb18_, hb19_, hb21_, hb22_, hb23_, hb25_, hb26_, hb27_, hb28_, hb29_, hb30_, hb32_, hb33_, hb34_, if_true, Act.put, List.setIfInBounds_toArray, List.set_cons_zero, List.set_cons_succ]
                                  have BK221 := Aside0.mk Q_BK221
                                  clear Q_BK221
                                  have HB := Aside0.mk Q_HB
                                  clear Q_HB
                                  have HO231 := Aside0.mk (Q_HO231 hb2_)
                                  clear Q_HO231
                                  have HO236 := Aside0.mk (Q_HO236 hb17_)
                                  clear Q_HO236
                                  have HO240 := Aside0.mk (Q_HO240 hb28_)
                                  clear Q_HO240
                                  clear hall hb1_ hb2_ hb3_ hb5_ hb6_ hb7_ hb9_ hb10_ hb11_ hb13_ hb15_ hb16_ hb17_ hb18_ hb19_ hb21_ hb22_ hb23_ hb25_ hb26_ hb27_ hb28_ hb29_ hb30_ hb32_ hb33_ hb34_
                                  have hcz72_0 : w68.cell? ⟨gb221, 0, none⟩ = some (.string a0_0) := (blk_cell BK221.out 0).trans rfl
                                  have hcz72_1 : w68.cell? ⟨gb221, 1, none⟩ = some (.int .i64 a0_1) := (blk_cell BK221.out 1).trans rfl
                                  have hcz72_2 : w68.cell? ⟨gb221, 2, none⟩ = some (.int .i64 a0_2) := (blk_cell BK221.out 2).trans rfl
                                  have hcz72_3 : w68.cell? ⟨gb221, 3, none⟩ = some (.int .i64 a0_3) := (blk_cell BK221.out 3).trans rfl
                                  have hcz72_4 : w68.cell? ⟨gb221, 4, none⟩ = some (.int .i64 a0_4) := (blk_cell BK221.out 4).trans rfl
                                  have hcz72_5 : w68.cell? ⟨gb221, 5, none⟩ = some (.int .i64 a0_5) := (blk_cell BK221.out 5).trans rfl
                                  have hcz72_6 : w68.cell? ⟨gb221, 6, none⟩ = some (.int .i64 a0_6) := (blk_cell BK221.out 6).trans rfl
                                  have hcz72_7 : w68.cell? ⟨gb221, 7, none⟩ = some (.string a0_7) := (blk_cell BK221.out 7).trans rfl
                                  have hfz72_0 := blk_frozen BK221.out 0
                                  have hfz72_1 := blk_frozen BK221.out 1
                                  have hfz72_2 := blk_frozen BK221.out 2
                                  have hfz72_3 := blk_frozen BK221.out 3
                                  have hfz72_4 := blk_frozen BK221.out 4
                                  have hfz72_5 := blk_frozen BK221.out 5
                                  have hfz72_6 := blk_frozen BK221.out 6
                                  have hfz72_7 := blk_frozen BK221.out 7
                                  try go_wp2
                                  go_ret2
                                  exact ⟨by first | rfl | (simp [errW_none, errW_some] <;> rfl) | (simp [*, errW_none, errW_some] <;> rfl), by repeat (first | (with_reducible first | exact HB.out | apply below_alloc | apply pw_below_drewN | apply below_drew1 | refine below_set ?_ GE221.out) | exact HB.out)⟩
                                · rw [if_neg c57] at H
                                  exact absurd H (by simp)
                            · rw [if_neg c38] at H
                              exact absurd H (by simp)
                          · rw [if_neg c37] at H
                            exact absurd H (by simp)
                        · rw [if_neg c36] at H
                          exact absurd H (by simp)
                      · rw [if_neg c34] at H
                        exact absurd H (by simp)
                    · rw [if_neg c33] at H
                      exact absurd H (by simp)
                  · rw [if_neg c32] at H
                    exact absurd H (by simp)
                · rw [if_neg c30] at H
                  exact absurd H (by simp)

end Go.Proofs.Ytagnefbgclpccaa.A
