import Derived.Test.YthblghfobnhoeaaGreatKd9059138
import Derived.Test.YthblghfobnhoeaaGreatK69777fb2
import Derived.Test.YthblghfobnhoeaaGreatK3b90cc32
import Derived.Test.YthblghfobnhoeaaGreatKc311b715
import Derived.Test.YthblghfobnhoeaaGreatK660887eb
namespace Go.Proofs.YthblghfobnhoeaaGreat.A
open Go.RowKit Go.Proofs.YthblghfobnhoeaaGreat.H Go.Proofs.YthblghfobnhoeaaGreatW.PrintWords Go.Proofs.YthblghfobnhoeaaGreatW.PrintLast Go.Proofs.YthblghfobnhoeaaGreatW.PrintMore
attribute [local go_sem] max2_int min2_int max_two min_two max_three min_three max_four min_four   -- for this text's walks alone
set_option linter.unusedVariables false
set_option linter.unusedSimpArgs false

/-! ### masterdiscref21_Offsets: function 23 -/
mutual
def masterdiscref21_Offsets.l0 : Nat → List Int → List Int → Int → Int → Option (List Int)
 | 0, _, _, _, _ => none
 | k + 1, x0, x3, x4, x5 => if x5 < (x0.length : Int) then (if 0 ≤ x5 then (if (rd x0 x5) < 34 then (masterdiscref21_Offsets.j1 k x0 x3 x4 x5 true) else (if (rd x0 x5) > 254 then (masterdiscref21_Offsets.j1 k x0 x3 x4 x5 true) else (masterdiscref21_Offsets.j1 k x0 x3 x4 x5 ((Int.tmod (rd x0 x5) 2) == 1)))) else (none)) else (some x3)
def masterdiscref21_Offsets.j1 : Nat → List Int → List Int → Int → Int → Bool → Option (List Int)
 | 0, _, _, _, _, _ => none
 | k + 1, x0, x3, x4, x5, x31 => if x31 = true then (some ([] : List Int)) else (if 0 ≤ x5 then (if x5 < (x0.length : Int) then (if (wrap64 ((Int.tmod x4 2048) + (rd x0 x5))) > 2048 then (if x3.length < 17592186044416 then (masterdiscref21_Offsets.l0 k x0 (x3 ++ [wrap64 ((wrap64 (x4 - (Int.tmod x4 2048))) + 2048)]) (wrap64 ((wrap64 ((wrap64 (x4 - (Int.tmod x4 2048))) + 2048)) + (rd x0 x5))) (wrap64 (x5 + 1))) else (none)) else (if x3.length < 17592186044416 then (masterdiscref21_Offsets.l0 k x0 (x3 ++ [x4]) (wrap64 (x4 + (rd x0 x5))) (wrap64 (x5 + 1))) else (none))) else (none)) else (none))
end
def masterdiscref21_Offsets.f (k : Nat) (l0 : List Int) : Option (List Int) := masterdiscref21_Offsets.l0 k l0 ([] : List Int) 0 0
set_option maxHeartbeats 8000000 in
set_option maxRecDepth 100000 in
theorem masterdiscref21_Offsets.calls (k : Nat) (A0 : Option Addr) (c0 : Nat) (l0 : List Int) (r : List Int) (w : World) (hr0 : Kd.C (Kd.int .i64) w A0 l0.length l0) (hc0 : l0.length ≤ c0) (h : masterdiscref21_Offsets.f k l0 = some r) :
  Calls Tryz.prog 23 #[.slice A0 l0.length c0] w fun e w' => ∃ v0_ : Value, e = .returned (v0_) ∧ Kd.R (Kd.int .i64) 3 w' w.heap.size (fun _ => True) v0_ r ∧ Below w.heap.size w w' := by
 have HR0 := Aside0.mk hr0
 have HC0 := Aside0.mk hc0
 clear hr0 hc0
 have HB := Aside0.mk (Below.refl w.heap.size w)
 have H : (masterdiscref21_Offsets.l0 k l0 ([] : List Int) 0 0) = some r := h
 clear h
 have H' := Aside0.mk H
 clear H
 go_enter Tryz.func23, Tryz.ntmps23
 go_wp2
 go_loopg [3, 4, 5] k (fun kq v3 v4 v5 w' => ∃ (x3_1 : List Int) (x4_1 : Int) (x5_1 : Int), v4 = .int .i64 x4_1 ∧ v5 = .int .i64 x5_1 ∧ Aside0 (masterdiscref21_Offsets.l0 kq l0 x3_1 x4_1 x5_1 = some r) ∧ Aside0 (kq ≤ k) ∧ Aside0 (Kd.R (Kd.int .i64) 3 w' w.heap.size (fun _ => True) v3 x3_1) ∧ Aside0 (Below w.heap.size w w'))
 case atStart => exact ⟨(([] : List Int)), (0), (0), (by first | rfl | (simp; done) | (simp [*]; done)), (by first | rfl | (simp; done) | (simp [*]; done)), H', ⟨Nat.le_refl _⟩, ⟨by first | exact Kd.R_nil _ _ _ _ _ | exact Kd.N_nil _ _ _ _ _ | exact Kd.V_nil _ _ _ _ _ | exact Kd.Q_nil _ _ _ _ _ | exact Kd.S_nil _ _ _ _ _⟩, ⟨by repeat (first | (with_reducible first | exact HB.out | apply below_alloc | apply pw_below_drewN | apply below_drew1) | exact HB.out)⟩⟩
 case round =>
  clear H'
  obtain ⟨x3_1, x4_1, x5_1, rfl, rfl, HA, HK1, HO_3, HB⟩ := hrel
  cases gk with
  | zero => exact absurd HA.out (by simp [masterdiscref21_Offsets.l0])
  | succ k1 =>
   have H := HA.out
   clear HA
   simp only [masterdiscref21_Offsets.l0] at H
   by_cases c2 : x5_1 < (l0.length : Int)
   ·rw [if_pos c2] at H
    have c2b0 : decide (x5_1 < (l0.length : Int)) = true := decide_eq_true c2
    clear c2
    have HC3 := Aside0.mk H
    clear H
    go_upto_region 6 with (fail)
    go_cut [31] (fun v31 wc => ∃ (kq : Nat) (x31_2 : Bool), v31 = .bool x31_2 ∧ Aside0 (masterdiscref21_Offsets.j1 kq l0 x3_1 x4_1 x5_1 x31_2 = some r) ∧ Aside0 (kq ≤ k1) ∧ Aside0 (Kd.R (Kd.int .i64) 3 wc w.heap.size (fun _ => True) u3 x3_1) ∧ Aside0 (Below w.heap.size w wc))
    case first =>
     have H := HC3.out
     clear HC3
     by_cases c4 : 0 ≤ x5_1
     rotate_left
     ·rw [if_neg c4] at H
      exact absurd H (by simp)
     rw [if_pos c4] at H
     have c4b0 : decide (0 ≤ x5_1) = true := decide_eq_true c4
     clear c4
     (first | rw [c4b0] | (simp only [i64_w, i32_w]; rw [c4b0]) | skip)
     by_cases c5 : (rd l0 x5_1) < 34
     ·rw [if_pos c5] at H
      have c5b0 : decide ((rd l0 x5_1) < 34) = true := decide_eq_true c5
      clear c5
      have H' := Aside0.mk H
      clear H
      have p251 : 0 ≤ (x5_1 : Int) := of_decide_eq_true (by first | (with_reducible assumption) | assumption)
      have q251 : x5_1 < (l0.length : Int) := of_decide_eq_true (by first | (with_reducible assumption) | assumption)
      obtain ⟨ad251, e251, hx251_0⟩ := Kd.at_int HR0.out x5_1 p251 q251
      cases e251
      replace hx251_0 := (HB.out.cell (World.block_lt_of_cell? w _ hx251_0)).trans hx251_0
      replace p251 := eq_true p251
      replace q251 := eq_true q251
      go_wp2
      go_meet
      case rel => exact ⟨_, (true), (by first | rfl | (simp; done) | (simp [*]; done)), H', ⟨by have := HK1.out; first | omega | exact Nat.le_refl _⟩, ⟨by (with_reducible repeat (first | apply Kd.R_alloc | apply Kd.R_drewN | apply Kd.R_drew)); exact HO_3.out⟩, ⟨by repeat (first | (with_reducible first | exact HB.out | apply below_alloc | apply pw_below_drewN | apply below_drew1) | exact HB.out)⟩⟩
     ·rw [if_neg c5] at H
      have c5b0 : decide ((rd l0 x5_1) < 34) = false := decide_eq_false c5
      clear c5
      by_cases c6 : (rd l0 x5_1) > 254
      ·rw [if_pos c6] at H
       have c6b0 : decide (254 < (rd l0 x5_1)) = true := decide_eq_true c6
       clear c6
       have H' := Aside0.mk H
       clear H
       have p251 : 0 ≤ (x5_1 : Int) := of_decide_eq_true (by first | (with_reducible assumption) | assumption)
       have q251 : x5_1 < (l0.length : Int) := of_decide_eq_true (by first | (with_reducible assumption) | assumption)
       obtain ⟨ad251, e251, hx251_0⟩ := Kd.at_int HR0.out x5_1 p251 q251
       cases e251
       replace hx251_0 := (HB.out.cell (World.block_lt_of_cell? w _ hx251_0)).trans hx251_0
       replace p251 := eq_true p251
       replace q251 := eq_true q251
       have p252 : 0 ≤ (x5_1 : Int) := of_decide_eq_true (by first | (with_reducible assumption) | assumption)
       have q252 : x5_1 < (l0.length : Int) := of_decide_eq_true (by first | (with_reducible assumption) | assumption)
       obtain ⟨ad252, e252, hx252_0⟩ := Kd.at_int HR0.out x5_1 p252 q252
       obtain rfl : ad251 = ad252 := (by injection e252)
       replace hx252_0 := (HB.out.cell (World.block_lt_of_cell? w _ hx252_0)).trans hx252_0
       replace p252 := eq_true p252
       replace q252 := eq_true q252
       go_wp2
       go_meet
       case rel => exact ⟨_, (true), (by first | rfl | (simp; done) | (simp [*]; done)), H', ⟨by have := HK1.out; first | omega | exact Nat.le_refl _⟩, ⟨by (with_reducible repeat (first | apply Kd.R_alloc | apply Kd.R_drewN | apply Kd.R_drew)); exact HO_3.out⟩, ⟨by repeat (first | (with_reducible first | exact HB.out | apply below_alloc | apply pw_below_drewN | apply below_drew1) | exact HB.out)⟩⟩
      ·rw [if_neg c6] at H
       have c6b0 : decide (254 < (rd l0 x5_1)) = false := decide_eq_false c6
       clear c6
       have H' := Aside0.mk H
       clear H
       have p251 : 0 ≤ (x5_1 : Int) := of_decide_eq_true (by first | (with_reducible assumption) | assumption)
       have q251 : x5_1 < (l0.length : Int) := of_decide_eq_true (by first | (with_reducible assumption) | assumption)
       obtain ⟨ad251, e251, hx251_0⟩ := Kd.at_int HR0.out x5_1 p251 q251
       cases e251
       replace hx251_0 := (HB.out.cell (World.block_lt_of_cell? w _ hx251_0)).trans hx251_0
       replace p251 := eq_true p251
       replace q251 := eq_true q251
       have p252 : 0 ≤ (x5_1 : Int) := of_decide_eq_true (by first | (with_reducible assumption) | assumption)
       have q252 : x5_1 < (l0.length : Int) := of_decide_eq_true (by first | (with_reducible assumption) | assumption)
       obtain ⟨ad252, e252, hx252_0⟩ := Kd.at_int HR0.out x5_1 p252 q252
       obtain rfl : ad251 = ad252 := (by injection e252)
       replace hx252_0 := (HB.out.cell (World.block_lt_of_cell? w _ hx252_0)).trans hx252_0
       replace p252 := eq_true p252
       replace q252 := eq_true q252
       have p253 : 0 ≤ (x5_1 : Int) := of_decide_eq_true (by first | (with_reducible assumption) | assumption)
       have q253 : x5_1 < (l0.length : Int) := of_decide_eq_true (by first | (with_reducible assumption) | assumption)
       obtain ⟨ad253, e253, hx253_0⟩ := Kd.at_int HR0.out x5_1 p253 q253
       obtain rfl : ad251 = ad253 := (by injection e253)
       replace hx253_0 := (HB.out.cell (World.block_lt_of_cell? w _ hx253_0)).trans hx253_0
       replace p253 := eq_true p253
       replace q253 := eq_true q253
       go_wp2
       go_meet
       case rel => exact ⟨_, (((Int.tmod (rd l0 x5_1) 2) == 1)), (by first | rfl | (simp; done) | (simp [*]; done)), H', ⟨by have := HK1.out; first | omega | exact Nat.le_refl _⟩, ⟨by (with_reducible repeat (first | apply Kd.R_alloc | apply Kd.R_drewN | apply Kd.R_drew)); exact HO_3.out⟩, ⟨by repeat (first | (with_reducible first | exact HB.out | apply below_alloc | apply pw_below_drewN | apply below_drew1) | exact HB.out)⟩⟩
    case rest =>
     clear HC3
     try clear c2
     try clear c2b0
     try clear p2
     try clear q2
     try clear hx2
     try clear c4
     try clear c4b0
     try clear c5
     try clear c5b0
     try clear c6
     try clear c6b0
     try clear hx251_0
     try clear hx252_0
     try clear hx253_0
     try clear p251
     try clear p252
     try clear p253
     try clear q251
     try clear q252
     try clear q253
     obtain ⟨kq, x31_2, rfl, HA, HJ2, HO_3, HB⟩ := hcut
     cases kq with
     | zero => exact absurd HA.out (by simp [masterdiscref21_Offsets.j1])
     | succ kj2 =>
      have H := HA.out
      clear HA
      simp only [masterdiscref21_Offsets.j1] at H
      by_cases c7 : x31_2 = true
      ·subst c7
       have H1 : (some ([] : List Int)) = some r := by rw [if_pos rfl] at H; exact H
       clear H
       have H := H1
       clear H1
       obtain rfl := Option.some.inj H
       go_wp2
       go_ret
       exact ⟨_, by first | rfl | (simp [errW_none, errW_some] <;> rfl) | (simp [*, errW_none, errW_some] <;> rfl), by first | exact Kd.R_nil _ _ _ _ _ | exact Kd.N_nil _ _ _ _ _ | exact Kd.V_nil _ _ _ _ _ | exact Kd.Q_nil _ _ _ _ _ | exact Kd.S_nil _ _ _ _ _, by repeat (first | (with_reducible first | exact HB.out | apply below_alloc | apply pw_below_drewN | apply below_drew1) | exact HB.out)⟩
      ·replace c7 := Bool.eq_false_iff.mpr c7
       subst c7
       have H1 : (if 0 ≤ x5_1 then (if x5_1 < (l0.length : Int) then (if (wrap64 ((Int.tmod x4_1 2048) + (rd l0 x5_1))) > 2048 then (if x3_1.length < 17592186044416 then (masterdiscref21_Offsets.l0 kj2 l0 (x3_1 ++ [wrap64 ((wrap64 (x4_1 - (Int.tmod x4_1 2048))) + 2048)]) (wrap64 ((wrap64 ((wrap64 (x4_1 - (Int.tmod x4_1 2048))) + 2048)) + (rd l0 x5_1))) (wrap64 (x5_1 + 1))) else (none)) else (if x3_1.length < 17592186044416 then (masterdiscref21_Offsets.l0 kj2 l0 (x3_1 ++ [x4_1]) (wrap64 (x4_1 + (rd l0 x5_1))) (wrap64 (x5_1 + 1))) else (none))) else (none)) else (none)) = some r := by rw [if_neg (show ¬ (false = true) by decide)] at H; exact H
       clear H
       have H := H1
       clear H1
       by_cases c8 : 0 ≤ x5_1
       rotate_left
       ·rw [if_neg c8] at H
        exact absurd H (by simp)
       rw [if_pos c8] at H
       have c8b0 : decide (0 ≤ x5_1) = true := decide_eq_true c8
       clear c8
       by_cases c9 : x5_1 < (l0.length : Int)
       rotate_left
       ·rw [if_neg c9] at H
        exact absurd H (by simp)
       rw [if_pos c9] at H
       have c9b0 : decide (x5_1 < (l0.length : Int)) = true := decide_eq_true c9
       clear c9
       by_cases c10 : (wrap64 ((Int.tmod x4_1 2048) + (rd l0 x5_1))) > 2048
       ·rw [if_pos c10] at H
        have c10b0 : decide (2048 < (wrap64 ((Int.tmod x4_1 2048) + (rd l0 x5_1)))) = true := decide_eq_true c10
        clear c10
        by_cases c11 : x3_1.length < 17592186044416
        rotate_left
        ·rw [if_neg c11] at H
         exact absurd H (by simp)
        rw [if_pos c11] at H
        have LMc11 := Aside0.mk c11
        clear c11
        obtain ⟨y255, hy255⟩ : ∃ y_ : List Int, y_ = (x3_1 ++ [wrap64 ((wrap64 (x4_1 - (Int.tmod x4_1 2048))) + 2048)]) := ⟨_, rfl⟩
        replace H : (masterdiscref21_Offsets.l0 kj2 l0 y255 (wrap64 ((wrap64 ((wrap64 (x4_1 - (Int.tmod x4_1 2048))) + 2048)) + (rd l0 x5_1))) (wrap64 (x5_1 + 1))) = some r := by first | (rw [hy255]; with_reducible exact H) | (have H2_ := (Option.bind_some _ _).symm.trans H; rw [hy255]; with_reducible exact H2_) | (have H2_ := (Option.bind_some _ _).symm.trans H; with_reducible exact H2_) | with_reducible exact H | (rw [hy255]; exact H) | exact H
        have Ny255 := Aside0.mk hy255
        clear hy255
        have H' := Aside0.mk H
        clear H
        have p254 : 0 ≤ (x5_1 : Int) := of_decide_eq_true (by first | (with_reducible assumption) | assumption)
        have q254 : x5_1 < (l0.length : Int) := of_decide_eq_true (by first | (with_reducible assumption) | assumption)
        obtain ⟨ad254, e254, hx254_0⟩ := Kd.at_int HR0.out x5_1 p254 q254
        cases e254
        replace hx254_0 := (HB.out.cell (World.block_lt_of_cell? w _ hx254_0)).trans hx254_0
        replace p254 := eq_true p254
        replace q254 := eq_true q254
        go_wp2_with (first | ((with_reducible refine gate_builtin (b := .append) (xs := #[.tmp 45, .tmp 47]) rfl ?_); at_builtin; refine Kd.R_append (Kd.int .i64) (w0 := w) w.heap.size rfl (.tmp 45) (.tmp 47) 33 3 (.int .i64 0) 8 rfl Tryz.underlying33 info3 rfl (by decide) (by omega) u3 x3_1 (wrap64 ((wrap64 (x4_1 - (Int.tmod x4_1 2048))) + 2048)) [.int .i64 (wrap64 ((wrap64 (x4_1 - (Int.tmod x4_1 2048))) + 2048))] (fun _ => True) (fun _ => False) rfl rfl ?aP (fun _ hk => hk.elim) ?aF ?aO ?aB ?aS ?aL ?_; (case aP => exact rfl); (case aB => exact (by repeat (first | (with_reducible first | exact HB.out | apply below_alloc | apply pw_below_drewN | apply below_drew1) | exact HB.out))); (case aF => exact (fun _ _ => trivial)); (case aO => exact (by (with_reducible repeat (first | apply Kd.R_alloc | apply Kd.R_drewN | apply Kd.R_drew)); exact HO_3.out)); (case aS => exact (below_size (by repeat (first | (with_reducible first | exact HB.out | apply below_alloc | apply pw_below_drewN | apply below_drew1) | exact HB.out)))); (case aL => have := LMc11.out; omega); intro v256 w12 ho hb hg hat; rw [← Ny255.out] at ho; have n0_ := Aside0.mk (hb); have n1_ := Aside0.mk (ho); clear HB; clear HO_3; have HB := n0_; have HO257 := n1_; clear n0_ n1_; clear ho hb hg hat; have p258 : 0 ≤ (x5_1 : Int) := of_decide_eq_true (by first | (with_reducible assumption) | assumption); have q258 : x5_1 < (l0.length : Int) := of_decide_eq_true (by first | (with_reducible assumption) | assumption); obtain ⟨ad258, e258, hx258_0⟩ := Kd.at_int HR0.out x5_1 p258 q258; obtain rfl : ad254 = ad258 := (by injection e258); replace hx258_0 := (HB.out.cell (World.block_lt_of_cell? w _ hx258_0)).trans hx258_0; replace p258 := eq_true p258; replace q258 := eq_true q258))
        go_roundg kj2
        case measure => have := HK1.out; have := HJ2.out; omega
        case rel => exact ⟨(y255), (wrap64 ((wrap64 ((wrap64 (x4_1 - (Int.tmod x4_1 2048))) + 2048)) + (rd l0 x5_1))), (wrap64 (x5_1 + 1)), (by first | rfl | (simp; done) | (simp [*]; done)), (by first | rfl | (simp; done) | (simp [*]; done)), H', ⟨by have := HK1.out; have := HJ2.out; omega⟩, ⟨by (with_reducible repeat (first | apply Kd.R_alloc | apply Kd.R_drewN | apply Kd.R_drew)); exact HO257.out⟩, ⟨by repeat (first | (with_reducible first | exact HB.out | apply below_alloc | apply pw_below_drewN | apply below_drew1) | exact HB.out)⟩⟩
       ·rw [if_neg c10] at H
        have c10b0 : decide (2048 < (wrap64 ((Int.tmod x4_1 2048) + (rd l0 x5_1)))) = false := decide_eq_false c10
        clear c10
        by_cases c13 : x3_1.length < 17592186044416
        rotate_left
        ·rw [if_neg c13] at H
         exact absurd H (by simp)
        rw [if_pos c13] at H
        have LMc13 := Aside0.mk c13
        clear c13
        obtain ⟨y259, hy259⟩ : ∃ y_ : List Int, y_ = (x3_1 ++ [x4_1]) := ⟨_, rfl⟩
        replace H : (masterdiscref21_Offsets.l0 kj2 l0 y259 (wrap64 (x4_1 + (rd l0 x5_1))) (wrap64 (x5_1 + 1))) = some r := by first | (rw [hy259]; with_reducible exact H) | (have H2_ := (Option.bind_some _ _).symm.trans H; rw [hy259]; with_reducible exact H2_) | (have H2_ := (Option.bind_some _ _).symm.trans H; with_reducible exact H2_) | with_reducible exact H | (rw [hy259]; exact H) | exact H
        have Ny259 := Aside0.mk hy259
        clear hy259
        have H' := Aside0.mk H
        clear H
        have p254 : 0 ≤ (x5_1 : Int) := of_decide_eq_true (by first | (with_reducible assumption) | assumption)
        have q254 : x5_1 < (l0.length : Int) := of_decide_eq_true (by first | (with_reducible assumption) | assumption)
        obtain ⟨ad254, e254, hx254_0⟩ := Kd.at_int HR0.out x5_1 p254 q254
        cases e254
        replace hx254_0 := (HB.out.cell (World.block_lt_of_cell? w _ hx254_0)).trans hx254_0
        replace p254 := eq_true p254
        replace q254 := eq_true q254
        go_wp2_with (first | ((with_reducible refine gate_builtin (b := .append) (xs := #[.tmp 45, .tmp 47]) rfl ?_); at_builtin; refine Kd.R_append (Kd.int .i64) (w0 := w) w.heap.size rfl (.tmp 45) (.tmp 47) 33 3 (.int .i64 0) 8 rfl Tryz.underlying33 info3 rfl (by decide) (by omega) u3 x3_1 x4_1 [.int .i64 x4_1] (fun _ => True) (fun _ => False) rfl rfl ?aP (fun _ hk => hk.elim) ?aF ?aO ?aB ?aS ?aL ?_; (case aP => exact rfl); (case aB => exact (by repeat (first | (with_reducible first | exact HB.out | apply below_alloc | apply pw_below_drewN | apply below_drew1) | exact HB.out))); (case aF => exact (fun _ _ => trivial)); (case aO => exact (by (with_reducible repeat (first | apply Kd.R_alloc | apply Kd.R_drewN | apply Kd.R_drew)); exact HO_3.out)); (case aS => exact (below_size (by repeat (first | (with_reducible first | exact HB.out | apply below_alloc | apply pw_below_drewN | apply below_drew1) | exact HB.out)))); (case aL => have := LMc13.out; omega); intro v260 w14 ho hb hg hat; rw [← Ny259.out] at ho; have n0_ := Aside0.mk (hb); have n1_ := Aside0.mk (ho); clear HB; clear HO_3; have HB := n0_; have HO261 := n1_; clear n0_ n1_; clear ho hb hg hat; have p262 : 0 ≤ (x5_1 : Int) := of_decide_eq_true (by first | (with_reducible assumption) | assumption); have q262 : x5_1 < (l0.length : Int) := of_decide_eq_true (by first | (with_reducible assumption) | assumption); obtain ⟨ad262, e262, hx262_0⟩ := Kd.at_int HR0.out x5_1 p262 q262; obtain rfl : ad254 = ad262 := (by injection e262); replace hx262_0 := (HB.out.cell (World.block_lt_of_cell? w _ hx262_0)).trans hx262_0; replace p262 := eq_true p262; replace q262 := eq_true q262))
        go_roundg kj2
        case measure => have := HK1.out; have := HJ2.out; omega
        case rel => exact ⟨(y259), (wrap64 (x4_1 + (rd l0 x5_1))), (wrap64 (x5_1 + 1)), (by first | rfl | (simp; done) | (simp [*]; done)), (by first | rfl | (simp; done) | (simp [*]; done)), H', ⟨by have := HK1.out; have := HJ2.out; omega⟩, ⟨by (with_reducible repeat (first | apply Kd.R_alloc | apply Kd.R_drewN | apply Kd.R_drew)); exact HO261.out⟩, ⟨by repeat (first | (with_reducible first | exact HB.out | apply below_alloc | apply pw_below_drewN | apply below_drew1) | exact HB.out)⟩⟩
   ·rw [if_neg c2] at H
    have c2b0 : decide (x5_1 < (l0.length : Int)) = false := decide_eq_false c2
    clear c2
    obtain rfl := Option.some.inj H
    go_wp2
    go_ret
    exact ⟨_, by first | rfl | (simp [errW_none, errW_some] <;> rfl) | (simp [*, errW_none, errW_some] <;> rfl), by (with_reducible repeat (first | apply Kd.R_alloc | apply Kd.R_drewN | apply Kd.R_drew)); exact HO_3.out, by repeat (first | (with_reducible first | exact HB.out | apply below_alloc | apply pw_below_drewN | apply below_drew1) | exact HB.out)⟩

/-! ### masterdiscref21_Blocks: function 20 -/
def masterdiscref21_Blocks.f (k : Nat) (l0 : List Int) : Option (Int) := (masterdiscref21_Offsets.f k l0).bind fun t263 => (if (t263.length : Int) = 0 then (some 0) else (if 0 ≤ (wrap64 ((t263.length : Int) - 1)) then (if (wrap64 ((t263.length : Int) - 1)) < (t263.length : Int) then (some (wrap64 ((wrap64 (Int.tdiv (rd t263 (wrap64 ((t263.length : Int) - 1))) 2048)) + 1))) else (none)) else (none)))
set_option maxHeartbeats 8000000 in
set_option maxRecDepth 100000 in
theorem masterdiscref21_Blocks.calls (k : Nat) (A0 : Option Addr) (c0 : Nat) (l0 : List Int) (r : Int) (w : World) (hr0 : Kd.C (Kd.int .i64) w A0 l0.length l0) (hc0 : l0.length ≤ c0) (h : masterdiscref21_Blocks.f k l0 = some r) :
  Calls Tryz.prog 20 #[.slice A0 l0.length c0] w fun e w' => e = .returned (.int .i64 r) ∧ Below w.heap.size w w' := by
 have HR0 := Aside0.mk hr0
 have HC0 := Aside0.mk hc0
 clear hr0 hc0
 have HB := Aside0.mk (Below.refl w.heap.size w)
 have H : ((masterdiscref21_Offsets.f k l0).bind fun t263 => (if (t263.length : Int) = 0 then (some 0) else (if 0 ≤ (wrap64 ((t263.length : Int) - 1)) then (if (wrap64 ((t263.length : Int) - 1)) < (t263.length : Int) then (some (wrap64 ((wrap64 (Int.tdiv (rd t263 (wrap64 ((t263.length : Int) - 1))) 2048)) + 1))) else (none)) else (none)))) = some r := h
 clear h
 replace H := Option.bind_eq_some_iff.mp H
 obtain ⟨t263, A20, H⟩ := H
 replace H : (if (t263.length : Int) = 0 then (some 0) else (if 0 ≤ (wrap64 ((t263.length : Int) - 1)) then (if (wrap64 ((t263.length : Int) - 1)) < (t263.length : Int) then (some (wrap64 ((wrap64 (Int.tdiv (rd t263 (wrap64 ((t263.length : Int) - 1))) 2048)) + 1))) else (none)) else (none))) = some r := H
 have A2 := Aside0.mk A20
 clear A20
 by_cases c3 : (t263.length : Int) = 0
 ·rw [if_pos c3] at H
  have c3b0 : ((t263.length : Int) == 0) = true := beq_iff_eq.mpr c3
  have c3b1 : ((t263.length : Int) != 0) = false := bne_eq_false_iff_eq.mpr c3
  clear c3
  obtain rfl := Option.some.inj H
  go_enter Tryz.func20, Tryz.ntmps20
  go_wp2_with (first | ((with_reducible refine gate_callee (f := 23) rfl ?_); refine goesL_ (some 5) rfl rfl Tryz.func23 (by kernel_rfl) rfl #[.slice A0 l0.length c0] rfl (by (try simp only [List.map_toArray, List.map_cons, List.map_nil]); first | done | rfl | (simp only [List.length_drop, List.length_take]; rfl)) ?_; (with_reducible refine (masterdiscref21_Offsets.calls k _ _ l0 t263 _ ?side1 ?side2 A2.out).mono ?_); (case side1 => repeat (first | exact HR0.out | (with_reducible refine Kd.C_alloc ?_ _) | (with_reducible refine Kd.C_drewN ?_ _) | (with_reducible refine Kd.C_drew ?_))); (case side2 => exact HC0.out); rintro e w4 ⟨v264, rfl, ho0, hb⟩; refine ⟨_, rfl, ?_⟩; have n0_ := Aside0.mk (Kd.R_lower ho0 (below_size (by repeat (first | (with_reducible first | exact HB.out | apply below_alloc | apply pw_below_drewN | apply below_drew1) | exact HB.out)))); have n1_ := Aside0.mk (below_step (by repeat (first | (with_reducible first | exact HB.out | apply below_alloc | apply pw_below_drewN | apply below_drew1) | exact HB.out)) hb); clear HB; have HO265 := n0_; have HB := n1_; clear n0_ n1_; (try clear hb); (try clear hb2); (try clear hk); (try clear hi); (try clear ho0); obtain ⟨Ao5, co5, eo5⟩ := Kd.R_slice HO265.out; subst eo5))
  go_ret
  exact ⟨by first | rfl | (simp [errW_none, errW_some] <;> rfl) | (simp [*, errW_none, errW_some] <;> rfl), by repeat (first | (with_reducible first | exact HB.out | apply below_alloc | apply pw_below_drewN | apply below_drew1) | exact HB.out)⟩
 ·rw [if_neg c3] at H
  have c3b0 : ((t263.length : Int) == 0) = false := beq_eq_false_iff_ne.mpr c3
  have c3b1 : ((t263.length : Int) != 0) = true := bne_iff_ne.mpr c3
  have c3b2 : ¬ (t263 = []) := fun h_ => c3 (by rw [h_]; rfl)
  obtain ⟨ji6, hji6⟩ : ∃ j_ : Int, (wrap64 ((t263.length : Int) - 1)) = j_ := ⟨_, rfl⟩
  replace H : (if 0 ≤ (ji6) then (if (ji6) < (t263.length : Int) then (some (wrap64 ((wrap64 (Int.tdiv (rd t263 (ji6)) 2048)) + 1))) else (none)) else (none)) = some r := by first | (rw [hji6] at H; exact H) | (simp only [hji6] at H ⊢; exact H)
  (try rw [hji6] at A2)
  have hji6w : (IntKind.i64.wrap ((t263.length : Int) - 1)) = ji6 := (i64_w _).trans hji6
  by_cases c7 : 0 ≤ (ji6)
  rotate_left
  ·rw [if_neg c7] at H
   exact absurd H (by simp)
  rw [if_pos c7] at H
  have c7b0 : decide (0 ≤ (ji6)) = true := decide_eq_true c7
  clear c7
  by_cases c8 : (ji6) < (t263.length : Int)
  rotate_left
  ·rw [if_neg c8] at H
   exact absurd H (by simp)
  rw [if_pos c8] at H
  have c8b0 : decide ((ji6) < (t263.length : Int)) = true := decide_eq_true c8
  clear c8
  obtain rfl := Option.some.inj H
  go_enter Tryz.func20, Tryz.ntmps20
  go_wp2_with (first | ((with_reducible refine gate_callee (f := 23) rfl ?_); refine goesL_ (some 5) rfl rfl Tryz.func23 (by kernel_rfl) rfl #[.slice A0 l0.length c0] rfl (by (try simp only [List.map_toArray, List.map_cons, List.map_nil]); first | done | rfl | (simp only [List.length_drop, List.length_take]; rfl)) ?_; (with_reducible refine (masterdiscref21_Offsets.calls k _ _ l0 t263 _ ?side1 ?side2 A2.out).mono ?_); (case side1 => repeat (first | exact HR0.out | (with_reducible refine Kd.C_alloc ?_ _) | (with_reducible refine Kd.C_drewN ?_ _) | (with_reducible refine Kd.C_drew ?_))); (case side2 => exact HC0.out); rintro e w9 ⟨v264, rfl, ho0, hb⟩; refine ⟨_, rfl, ?_⟩; have n0_ := Aside0.mk (Kd.R_lower ho0 (below_size (by repeat (first | (with_reducible first | exact HB.out | apply below_alloc | apply pw_below_drewN | apply below_drew1) | exact HB.out)))); have n1_ := Aside0.mk (below_step (by repeat (first | (with_reducible first | exact HB.out | apply below_alloc | apply pw_below_drewN | apply below_drew1) | exact HB.out)) hb); clear HB; have HO265 := n0_; have HB := n1_; clear n0_ n1_; (try clear hb); (try clear hb2); (try clear hk); (try clear hi); (try clear ho0); obtain ⟨Ao10, co10, eo10⟩ := Kd.R_slice HO265.out; subst eo10; have p266 : 0 ≤ ((ji6) : Int) := of_decide_eq_true (by first | (with_reducible assumption) | assumption); have q266 : (ji6) < (t263.length : Int) := of_decide_eq_true (by first | (with_reducible assumption) | assumption); obtain ⟨ad266, e266, hx266_0⟩ := Kd.at_int (Kd.R_reads' HO265.out).2.2 (ji6) p266 q266; cases e266; replace p266 := eq_true p266; replace q266 := eq_true q266))
  go_ret
  exact ⟨by first | rfl | (simp [errW_none, errW_some] <;> rfl) | (simp only [← hji6]; first | rfl | (simp [errW_none, errW_some] <;> rfl)) | (simp [*, errW_none, errW_some] <;> rfl), by repeat (first | (with_reducible first | exact HB.out | apply below_alloc | apply pw_below_drewN | apply below_drew1) | exact HB.out)⟩

/-! ### masterdisclaw21_DirectoryPlaces: function 5 -/
def masterdisclaw21_DirectoryPlaces.f (k : Nat) (l0 : List Int) : Option (Bool) := (masterdisclaw21_awake.f).bind fun t267 => (if t267 = true then (if (l0.length : Int) > 300 then (some true) else ((directory_Blocks.f k l0).bind fun t268 => ((masterdiscref21_Blocks.f k l0).bind fun t269 => (if t268 = t269 then ((directory_Offsets.f k l0).bind fun t270 => ((masterdiscref21_Offsets.f k l0).bind fun t273 => ((slices_Equal_int_int.f k t270 t273).bind fun t276 => (some t276)))) else (some false))))) else (some false))
set_option maxHeartbeats 8000000 in
set_option maxRecDepth 100000 in
theorem masterdisclaw21_DirectoryPlaces.calls (k : Nat) (A0 : Option Addr) (c0 : Nat) (l0 : List Int) (r : Bool) (w : World) (hr0 : Kd.C (Kd.int .i64) w A0 l0.length l0) (hc0 : l0.length ≤ c0) (h : masterdisclaw21_DirectoryPlaces.f k l0 = some r) :
  Calls Tryz.prog 5 #[.slice A0 l0.length c0] w fun e w' => e = .returned (.bool r) ∧ Below w.heap.size w w' := by
 have HR0 := Aside0.mk hr0
 have HC0 := Aside0.mk hc0
 clear hr0 hc0
 have HB := Aside0.mk (Below.refl w.heap.size w)
 have H : ((masterdisclaw21_awake.f).bind fun t267 => (if t267 = true then (if (l0.length : Int) > 300 then (some true) else ((directory_Blocks.f k l0).bind fun t268 => ((masterdiscref21_Blocks.f k l0).bind fun t269 => (if t268 = t269 then ((directory_Offsets.f k l0).bind fun t270 => ((masterdiscref21_Offsets.f k l0).bind fun t273 => ((slices_Equal_int_int.f k t270 t273).bind fun t276 => (some t276)))) else (some false))))) else (some false))) = some r := h
 clear h
 replace H := Option.bind_eq_some_iff.mp H
 obtain ⟨t267, A20, H⟩ := H
 replace H : (if t267 = true then (if (l0.length : Int) > 300 then (some true) else ((directory_Blocks.f k l0).bind fun t268 => ((masterdiscref21_Blocks.f k l0).bind fun t269 => (if t268 = t269 then ((directory_Offsets.f k l0).bind fun t270 => ((masterdiscref21_Offsets.f k l0).bind fun t273 => ((slices_Equal_int_int.f k t270 t273).bind fun t276 => (some t276)))) else (some false))))) else (some false)) = some r := H
 have A2 := Aside0.mk A20
 clear A20
 by_cases c3 : t267 = true
 ·subst c3
  have H1 : (if (l0.length : Int) > 300 then (some true) else ((directory_Blocks.f k l0).bind fun t268 => ((masterdiscref21_Blocks.f k l0).bind fun t269 => (if t268 = t269 then ((directory_Offsets.f k l0).bind fun t270 => ((masterdiscref21_Offsets.f k l0).bind fun t273 => ((slices_Equal_int_int.f k t270 t273).bind fun t276 => (some t276)))) else (some false))))) = some r := by rw [if_pos rfl] at H; exact H
  clear H
  have H := H1
  clear H1
  by_cases c4 : (l0.length : Int) > 300
  ·rw [if_pos c4] at H
   have c4b0 : decide (300 < (l0.length : Int)) = true := decide_eq_true c4
   have c4b1 : decide (300 < l0.length) = true := decide_eq_true (by omega)
   clear c4
   obtain rfl := Option.some.inj H
   go_enter Tryz.func5, Tryz.ntmps5
   go_wp2_with (first | ((with_reducible refine gate_callee (f := 9) rfl ?_); refine goesL_ (some 3) rfl rfl Tryz.func9 (by kernel_rfl) rfl #[] rfl (by (try simp only [List.map_toArray, List.map_cons, List.map_nil]); first | done | rfl | (simp only [List.length_drop, List.length_take]; rfl)) ?_; (with_reducible refine (masterdisclaw21_awake.calls  true _ A2.out).mono ?_); rintro e w5 ⟨rfl, hb⟩; refine ⟨_, rfl, ?_⟩; have n0_ := Aside0.mk (below_step (by repeat (first | (with_reducible first | exact HB.out | apply below_alloc | apply pw_below_drewN | apply below_drew1) | exact HB.out)) hb); clear HB; have HB := n0_; clear n0_; (try clear hb); (try clear hb2); (try clear hk); (try clear hi)))
   go_ret
   exact ⟨by first | rfl | (simp [errW_none, errW_some] <;> rfl) | (simp [*, errW_none, errW_some] <;> rfl), by repeat (first | (with_reducible first | exact HB.out | apply below_alloc | apply pw_below_drewN | apply below_drew1) | exact HB.out)⟩
  ·rw [if_neg c4] at H
   have c4b0 : decide (300 < (l0.length : Int)) = false := decide_eq_false c4
   have c4b1 : decide (300 < l0.length) = false := decide_eq_false (by omega)
   clear c4
   replace H := Option.bind_eq_some_iff.mp H
   obtain ⟨t268, A60, H⟩ := H
   replace H : ((masterdiscref21_Blocks.f k l0).bind fun t269 => (if t268 = t269 then ((directory_Offsets.f k l0).bind fun t270 => ((masterdiscref21_Offsets.f k l0).bind fun t273 => ((slices_Equal_int_int.f k t270 t273).bind fun t276 => (some t276)))) else (some false))) = some r := H
   have A6 := Aside0.mk A60
   clear A60
   replace H := Option.bind_eq_some_iff.mp H
   obtain ⟨t269, A70, H⟩ := H
   replace H : (if t268 = t269 then ((directory_Offsets.f k l0).bind fun t270 => ((masterdiscref21_Offsets.f k l0).bind fun t273 => ((slices_Equal_int_int.f k t270 t273).bind fun t276 => (some t276)))) else (some false)) = some r := H
   have A7 := Aside0.mk A70
   clear A70
   by_cases c8 : t268 = t269
   ·rw [if_pos c8] at H
    have c8b0 : (t268 == t269) = true := beq_iff_eq.mpr c8
    have c8b1 : (t268 != t269) = false := bne_eq_false_iff_eq.mpr c8
    clear c8
    replace H := Option.bind_eq_some_iff.mp H
    obtain ⟨t270, A90, H⟩ := H
    replace H : ((masterdiscref21_Offsets.f k l0).bind fun t273 => ((slices_Equal_int_int.f k t270 t273).bind fun t276 => (some t276))) = some r := H
    have A9 := Aside0.mk A90
    clear A90
    replace H := Option.bind_eq_some_iff.mp H
    obtain ⟨t273, A100, H⟩ := H
    replace H : ((slices_Equal_int_int.f k t270 t273).bind fun t276 => (some t276)) = some r := H
    have A10 := Aside0.mk A100
    clear A100
    replace H := Option.bind_eq_some_iff.mp H
    obtain ⟨t276, A110, H⟩ := H
    replace H : (some t276) = some r := H
    have A11 := Aside0.mk A110
    clear A110
    obtain rfl := Option.some.inj H
    go_enter Tryz.func5, Tryz.ntmps5
    go_wp2_with (first | ((with_reducible refine gate_callee (f := 9) rfl ?_); refine goesL_ (some 3) rfl rfl Tryz.func9 (by kernel_rfl) rfl #[] rfl (by (try simp only [List.map_toArray, List.map_cons, List.map_nil]); first | done | rfl | (simp only [List.length_drop, List.length_take]; rfl)) ?_; (with_reducible refine (masterdisclaw21_awake.calls  true _ A2.out).mono ?_); rintro e w12 ⟨rfl, hb⟩; refine ⟨_, rfl, ?_⟩; have n0_ := Aside0.mk (below_step (by repeat (first | (with_reducible first | exact HB.out | apply below_alloc | apply pw_below_drewN | apply below_drew1) | exact HB.out)) hb); clear HB; have HB := n0_; clear n0_; (try clear hb); (try clear hb2); (try clear hk); (try clear hi)) | ((with_reducible refine gate_callee (f := 19) rfl ?_); refine goesL_ (some 9) rfl rfl Tryz.func19 (by kernel_rfl) rfl #[.slice A0 l0.length c0] rfl (by (try simp only [List.map_toArray, List.map_cons, List.map_nil]); first | done | rfl | (simp only [List.length_drop, List.length_take]; rfl)) ?_; (with_reducible refine (directory_Blocks.calls k _ _ l0 t268 _ ?side1 ?side2 A6.out).mono ?_); (case side1 => repeat (first | exact (Kd.C_below HR0.out HB.out) | (with_reducible refine Kd.C_alloc ?_ _) | (with_reducible refine Kd.C_drewN ?_ _) | (with_reducible refine Kd.C_drew ?_))); (case side2 => exact HC0.out); rintro e w13 ⟨rfl, hb⟩; refine ⟨_, rfl, ?_⟩; have n0_ := Aside0.mk (below_step (by repeat (first | (with_reducible first | exact HB.out | apply below_alloc | apply pw_below_drewN | apply below_drew1) | exact HB.out)) hb); clear HB; have HB := n0_; clear n0_; (try clear hb); (try clear hb2); (try clear hk); (try clear hi)) | ((with_reducible refine gate_callee (f := 20) rfl ?_); refine goesL_ (some 11) rfl rfl Tryz.func20 (by kernel_rfl) rfl #[.slice A0 l0.length c0] rfl (by (try simp only [List.map_toArray, List.map_cons, List.map_nil]); first | done | rfl | (simp only [List.length_drop, List.length_take]; rfl)) ?_; (with_reducible refine (masterdiscref21_Blocks.calls k _ _ l0 t269 _ ?side1 ?side2 A7.out).mono ?_); (case side1 => repeat (first | exact (Kd.C_below HR0.out HB.out) | (with_reducible refine Kd.C_alloc ?_ _) | (with_reducible refine Kd.C_drewN ?_ _) | (with_reducible refine Kd.C_drew ?_))); (case side2 => exact HC0.out); rintro e w14 ⟨rfl, hb⟩; refine ⟨_, rfl, ?_⟩; have n0_ := Aside0.mk (below_step (by repeat (first | (with_reducible first | exact HB.out | apply below_alloc | apply pw_below_drewN | apply below_drew1) | exact HB.out)) hb); clear HB; have HB := n0_; clear n0_; (try clear hb); (try clear hb2); (try clear hk); (try clear hi)) | (go_at_call 22; (with_reducible refine (directory_Offsets.calls k _ _ l0 t270 _ ?side1 ?side2 A9.out).mono ?_); (case side1 => repeat (first | exact (Kd.C_below HR0.out HB.out) | (with_reducible refine Kd.C_alloc ?_ _) | (with_reducible refine Kd.C_drewN ?_ _) | (with_reducible refine Kd.C_drew ?_))); (case side2 => exact HC0.out); rintro e w15 ⟨v271, rfl, ho0, hb⟩; have n0_ := Aside0.mk (Kd.R_lower ho0 (below_size (by repeat (first | (with_reducible first | exact HB.out | apply below_alloc | apply pw_below_drewN | apply below_drew1) | exact HB.out)))); have n1_ := Aside0.mk (below_step (by repeat (first | (with_reducible first | exact HB.out | apply below_alloc | apply pw_below_drewN | apply below_drew1) | exact HB.out)) hb); clear HB; have HO272 := n0_; have HB := n1_; clear n0_ n1_; (try clear hb); (try clear hb2); (try clear hk); (try clear hi); (try clear ho0)) | (go_at_call 23; (with_reducible refine (masterdiscref21_Offsets.calls k _ _ l0 t273 _ ?side1 ?side2 A10.out).mono ?_); (case side1 => repeat (first | exact (Kd.C_below HR0.out HB.out) | (with_reducible refine Kd.C_alloc ?_ _) | (with_reducible refine Kd.C_drewN ?_ _) | (with_reducible refine Kd.C_drew ?_))); (case side2 => exact HC0.out); rintro e w16 ⟨v274, rfl, ho0, hb⟩; have n0_ := Aside0.mk (Kd.R_elder' (by (with_reducible repeat (first | apply Kd.R_alloc | apply Kd.R_drewN | apply Kd.R_drew)); exact HO272.out) (Kd.R_base ho0) hb); have n1_ := Aside0.mk (Kd.R_lower (Kd.R_new' ho0 (Kd.R_lt (by (with_reducible repeat (first | apply Kd.R_alloc | apply Kd.R_drewN | apply Kd.R_drew)); exact HO272.out))) (below_size (by repeat (first | (with_reducible first | exact HB.out | apply below_alloc | apply pw_below_drewN | apply below_drew1) | exact HB.out)))); have n2_ := Aside0.mk (below_step (by repeat (first | (with_reducible first | exact HB.out | apply below_alloc | apply pw_below_drewN | apply below_drew1) | exact HB.out)) hb); clear HO272; clear HB; have HO272 := n0_; have HO275 := n1_; have HB := n2_; clear n0_ n1_ n2_; (try clear hb); (try clear hb2); (try clear hk); (try clear hi); (try clear ho0); obtain ⟨Ao17, co17, eo17⟩ := Kd.R_slice HO272.out; subst eo17; obtain ⟨Ao18, co18, eo18⟩ := Kd.R_slice HO275.out; subst eo18) | (go_at_call 21; (with_reducible refine (slices_Equal_int_int.calls k _ _ t270 _ _ t273 t276 _ ?side1 ?side2 ?side3 ?side4 A11.out).mono ?_); (case side1 => repeat (first | exact (Kd.R_reads' HO272.out).2.2 | (with_reducible refine Kd.C_alloc ?_ _) | (with_reducible refine Kd.C_drewN ?_ _) | (with_reducible refine Kd.C_drew ?_))); (case side2 => exact (Kd.R_reads' HO272.out).2.1); (case side3 => repeat (first | exact (Kd.R_reads' HO275.out).2.2 | (with_reducible refine Kd.C_alloc ?_ _) | (with_reducible refine Kd.C_drewN ?_ _) | (with_reducible refine Kd.C_drew ?_))); (case side4 => exact (Kd.R_reads' HO275.out).2.1); rintro e w' ⟨rfl, ⟨nd, rfl⟩⟩))
    go_ret
    exact ⟨by first | rfl | (simp [errW_none, errW_some] <;> rfl) | (simp [*, errW_none, errW_some] <;> rfl), by repeat (first | (with_reducible first | exact HB.out | apply below_alloc | apply pw_below_drewN | apply below_drew1) | exact HB.out)⟩
   ·rw [if_neg c8] at H
    have c8b0 : (t268 == t269) = false := beq_eq_false_iff_ne.mpr c8
    have c8b1 : (t268 != t269) = true := bne_iff_ne.mpr c8
    obtain rfl := Option.some.inj H
    go_enter Tryz.func5, Tryz.ntmps5
    go_wp2_with (first | ((with_reducible refine gate_callee (f := 9) rfl ?_); refine goesL_ (some 3) rfl rfl Tryz.func9 (by kernel_rfl) rfl #[] rfl (by (try simp only [List.map_toArray, List.map_cons, List.map_nil]); first | done | rfl | (simp only [List.length_drop, List.length_take]; rfl)) ?_; (with_reducible refine (masterdisclaw21_awake.calls  true _ A2.out).mono ?_); rintro e w19 ⟨rfl, hb⟩; refine ⟨_, rfl, ?_⟩; have n0_ := Aside0.mk (below_step (by repeat (first | (with_reducible first | exact HB.out | apply below_alloc | apply pw_below_drewN | apply below_drew1) | exact HB.out)) hb); clear HB; have HB := n0_; clear n0_; (try clear hb); (try clear hb2); (try clear hk); (try clear hi)) | ((with_reducible refine gate_callee (f := 19) rfl ?_); refine goesL_ (some 9) rfl rfl Tryz.func19 (by kernel_rfl) rfl #[.slice A0 l0.length c0] rfl (by (try simp only [List.map_toArray, List.map_cons, List.map_nil]); first | done | rfl | (simp only [List.length_drop, List.length_take]; rfl)) ?_; (with_reducible refine (directory_Blocks.calls k _ _ l0 t268 _ ?side1 ?side2 A6.out).mono ?_); (case side1 => repeat (first | exact (Kd.C_below HR0.out HB.out) | (with_reducible refine Kd.C_alloc ?_ _) | (with_reducible refine Kd.C_drewN ?_ _) | (with_reducible refine Kd.C_drew ?_))); (case side2 => exact HC0.out); rintro e w20 ⟨rfl, hb⟩; refine ⟨_, rfl, ?_⟩; have n0_ := Aside0.mk (below_step (by repeat (first | (with_reducible first | exact HB.out | apply below_alloc | apply pw_below_drewN | apply below_drew1) | exact HB.out)) hb); clear HB; have HB := n0_; clear n0_; (try clear hb); (try clear hb2); (try clear hk); (try clear hi)) | ((with_reducible refine gate_callee (f := 20) rfl ?_); refine goesL_ (some 11) rfl rfl Tryz.func20 (by kernel_rfl) rfl #[.slice A0 l0.length c0] rfl (by (try simp only [List.map_toArray, List.map_cons, List.map_nil]); first | done | rfl | (simp only [List.length_drop, List.length_take]; rfl)) ?_; (with_reducible refine (masterdiscref21_Blocks.calls k _ _ l0 t269 _ ?side1 ?side2 A7.out).mono ?_); (case side1 => repeat (first | exact (Kd.C_below HR0.out HB.out) | (with_reducible refine Kd.C_alloc ?_ _) | (with_reducible refine Kd.C_drewN ?_ _) | (with_reducible refine Kd.C_drew ?_))); (case side2 => exact HC0.out); rintro e w21 ⟨rfl, hb⟩; refine ⟨_, rfl, ?_⟩; have n0_ := Aside0.mk (below_step (by repeat (first | (with_reducible first | exact HB.out | apply below_alloc | apply pw_below_drewN | apply below_drew1) | exact HB.out)) hb); clear HB; have HB := n0_; clear n0_; (try clear hb); (try clear hb2); (try clear hk); (try clear hi)))
    go_ret
    exact ⟨by first | rfl | (simp [errW_none, errW_some] <;> rfl) | (simp [*, errW_none, errW_some] <;> rfl), by repeat (first | (with_reducible first | exact HB.out | apply below_alloc | apply pw_below_drewN | apply below_drew1) | exact HB.out)⟩
 ·replace c3 := Bool.eq_false_iff.mpr c3
  subst c3
  have H1 : (some false) = some r := by rw [if_neg (show ¬ (false = true) by decide)] at H; exact H
  clear H
  have H := H1
  clear H1
  obtain rfl := Option.some.inj H
  go_enter Tryz.func5, Tryz.ntmps5
  go_wp2_with (first | ((with_reducible refine gate_callee (f := 9) rfl ?_); refine goesL_ (some 3) rfl rfl Tryz.func9 (by kernel_rfl) rfl #[] rfl (by (try simp only [List.map_toArray, List.map_cons, List.map_nil]); first | done | rfl | (simp only [List.length_drop, List.length_take]; rfl)) ?_; (with_reducible refine (masterdisclaw21_awake.calls  false _ A2.out).mono ?_); rintro e w22 ⟨rfl, hb⟩; refine ⟨_, rfl, ?_⟩; have n0_ := Aside0.mk (below_step (by repeat (first | (with_reducible first | exact HB.out | apply below_alloc | apply pw_below_drewN | apply below_drew1) | exact HB.out)) hb); clear HB; have HB := n0_; clear n0_; (try clear hb); (try clear hb2); (try clear hk); (try clear hi)))
  go_ret
  exact ⟨by first | rfl | (simp [errW_none, errW_some] <;> rfl) | (simp [*, errW_none, errW_some] <;> rfl), by repeat (first | (with_reducible first | exact HB.out | apply below_alloc | apply pw_below_drewN | apply below_drew1) | exact HB.out)⟩

/-- THE ONE PURE STATEMENT of masterdisclaw21_DirectoryPlaces: yours. -/
def masterdisclaw21_DirectoryPlaces.Pure : Prop := ∀ (l0 : List Int), l0.length ≤ maxLen → l0.length * 8 ≤ 140737488351232 → (∀ x ∈ l0, (Lit.int .i64 x).wf = true) → ∃ k, masterdisclaw21_DirectoryPlaces.f k l0 = some true
theorem masterdisclaw21_DirectoryPlaces.walk (P : masterdisclaw21_DirectoryPlaces.Pure) (a0 : Option Addr) (len0 cap0 : Nat) (z0 : List Int) (w : World) (w0 : (a0 = none ∧ len0 = 0 ∧ cap0 = 0 ∧ z0 = []) ∨ ∃ x, a0 = some x ∧ len0 ≤ cap0 ∧ cap0 ≤ maxLen ∧ z0.length = cap0 ∧ (∀ i, i < z0.length → w.cell? (x.add i) = some (.int .i64 (z0.getD i 0))) ∧ ∀ n ∈ z0, (Lit.int .i64 n).wf = true) (y0 : len0 * 8 ≤ 140737488351232) :
  Calls Tryz.prog 5 #[.slice a0 len0 cap0] w fun e w' => e = .returned (.bool true) ∧ Below w.heap.size w w' := by
 obtain ⟨l0, rfl, hr0, hm0, hw0, hc0⟩ := ReadsInt.ofRowC w0
 obtain ⟨k, h⟩ := P l0 hm0 y0 hw0
 refine (masterdisclaw21_DirectoryPlaces.calls k _ _ l0 true w (Kd.C_of_reads (d := (0 : Int)) (h1 := fun _ => rfl) hr0) hc0 h).mono ?_
 rintro e w' ⟨rfl, hd⟩
 exact ⟨rfl, hd⟩

/-! ### masterdiscref20_Size: function 26 -/
/-! ### masterdiscref16_Time: function 100 -/
/-! ### masterdiscref16_Quarter: function 101 -/
/-! ### masterdiscref16_Zone: function 122 -/
/-! ### masterdiscref16_leap: function 141 -/
/-! ### masterdiscref16_year: function 133 -/
end Go.Proofs.YthblghfobnhoeaaGreat.A
namespace Go.Proofs.YthblghfobnhoeaaGreat.Q
open Go.RowKit Go.Proofs.YthblghfobnhoeaaGreatW.PrintWords Go.Proofs.YthblghfobnhoeaaGreatW.PrintLast Go.Proofs.YthblghfobnhoeaaGreat.A Go.Proofs.YthblghfobnhoeaaGreat.H
set_option linter.unusedVariables false

/-! The reference's places are the program's. -/
theorem tmod_odd (n : Int) (h : 0 ≤ n) : (Int.tmod n 2 == 1) = !decide (n % 2 = 0) := by
  rw [Int.tmod_eq_emod_of_nonneg h]
  by_cases he : n % 2 = 0
  · simp [he]
  · have : n % 2 = 1 := by omega
    simp [this]
theorem roffs_bad (k : Nat) (x0 x3 : List Int) (x4 x5 : Int) : masterdiscref21_Offsets.j1 (k + 1) x0 x3 x4 x5 true = some [] := by
  rw [masterdiscref21_Offsets.j1, if_pos rfl]
theorem roffs_good (k : Nat) (l acc : List Int) (p : Int) (i : Nat) (hi : i < l.length) (hl : l.length ≤ 10000) (n : Int) (hr : rd l (i : Int) = n) (h0 : 0 ≤ p) (h1 : p ≤ 10000000) (hn : 34 ≤ n ∧ n ≤ 254) (hx : acc.length < 10000000) :
    masterdiscref21_Offsets.j1 (k + 1) l acc p i false = masterdiscref21_Offsets.l0 k l (acc ++ [place p n]) (place p n + n) ((i + 1 : Nat) : Int) := by
  have hm : Int.tmod p 2048 = p % 2048 := Int.tmod_eq_emod_of_nonneg h0
  have hb := place_bd (p := p) (n := n) h0 hn
  have hw : wrap64 ((i : Int) + 1) = ((i + 1 : Nat) : Int) := by rw [wrap_id (by omega) (by omega)]; omega
  have f0 : (0 : Int) ≤ (i : Int) := Int.natCast_nonneg i
  have f1 : (i : Int) < (l.length : Int) := Int.ofNat_lt.2 hi
  have f2 : acc.length < 17592186044416 := by omega
  rw [masterdiscref21_Offsets.j1, if_neg (by decide), if_pos f0, if_pos f1, hm, hr, wrap_id (x := p % 2048 + n) (by omega) (by omega)]
  unfold place at hb ⊢
  by_cases hp : n > 2048 - p % 2048
  · have f3 : p % 2048 + n > 2048 := by omega
    rw [if_pos f3, if_pos f2, hw, wrap_id (x := p - p % 2048) (by omega) (by omega), wrap_id (x := p - p % 2048 + 2048) (by omega) (by omega), wrap_id (by omega) (by omega), if_pos hp]
    rw [show p - p % 2048 + 2048 = p + (2048 - p % 2048) by omega]
  · have f3 : ¬ p % 2048 + n > 2048 := by omega
    rw [if_neg f3, if_pos f2, hw, wrap_id (by omega) (by omega), if_neg hp]
theorem roffs_l (l : List Int) (hl : l.length ≤ 10000) (j : Nat) : ∀ (k i : Nat) (acc : List Int) (p : Int), i + j = l.length → 2 * j + 2 ≤ k → 0 ≤ p → p ≤ 507 * i → acc.length = i →
    masterdiscref21_Offsets.l0 k l acc p (i : Int) = if (l.drop i).all okS = true then some (acc ++ offs p (l.drop i)) else some [] := by
  induction j with
  | zero =>
    intro k i acc p hij hk h0 h1 ha
    obtain ⟨k, rfl⟩ : ∃ m, k = m + 1 := ⟨k - 1, by omega⟩
    rw [masterdiscref21_Offsets.l0, if_neg (by omega), List.drop_of_length_le (by omega)]
    simp [offs]
  | succ j ih =>
    intro k i acc p hij hk h0 h1 ha
    obtain ⟨k, rfl⟩ : ∃ m, k = m + 1 + 1 := ⟨k - 2, by omega⟩
    have hi : i < l.length := by omega
    rw [masterdiscref21_Offsets.l0, if_pos (by omega), if_pos (by omega), rd_nat l i hi, List.drop_eq_getElem_cons hi]
    have hr := rd_nat l i hi
    generalize l[i] = n at hr ⊢
    rw [List.all_cons]
    by_cases c1 : n < 34
    · have hf : okS n = false := by unfold okS; exact decide_eq_false (by omega)
      rw [if_pos c1, roffs_bad, hf]; rfl
    · rw [if_neg c1]
      by_cases c2 : n > 254
      · have hf : okS n = false := by unfold okS; exact decide_eq_false (by omega)
        rw [if_pos c2, roffs_bad, hf]; rfl
      · rw [if_neg c2, tmod_odd n (by omega)]
        by_cases c3 : n % 2 = 0
        · have ht : okS n = true := by unfold okS; exact decide_eq_true (by omega)
          have hb := place_bd (p := p) (n := n) h0 (by omega)
          rw [decide_eq_true c3, ht, Bool.true_and, Bool.not_true, roffs_good k l acc p i hi hl n hr h0 (by omega) (by omega) (by omega)]
          rw [ih k (i + 1) (acc ++ [place p n]) (place p n + n) (by omega) (by omega) (by omega) (by omega) (by rw [List.length_append, List.length_singleton, ha])]
          rw [offs, List.append_assoc, List.singleton_append]
        · have hf : okS n = false := by unfold okS; exact decide_eq_false (by omega)
          rw [decide_eq_false c3, Bool.not_false, roffs_bad, hf]; rfl
theorem roffsets_f (l : List Int) (hl : l.length ≤ 10000) (k : Nat) (hk : 2 * l.length + 2 ≤ k) : masterdiscref21_Offsets.f k l = some (offsB l) := by
  unfold masterdiscref21_Offsets.f offsB
  have := roffs_l l hl l.length k 0 [] 0 (by omega) (by omega) (by omega) (by omega) rfl
  rw [List.drop_zero, List.nil_append] at this
  rw [show ((0 : Nat) : Int) = 0 from rfl] at this
  rw [this]
  split <;> rfl
theorem endOf_app : ∀ (a b : List Int) (p : Int), endOf p (a ++ b) = endOf (endOf p a) b
  | [], _, _ => rfl
  | n :: t, b, p => by rw [List.cons_append, endOf, endOf, endOf_app t b]
theorem offs_app : ∀ (a b : List Int) (p : Int), offs p (a ++ b) = offs p a ++ offs (endOf p a) b
  | [], _, _ => rfl
  | n :: t, b, p => by rw [List.cons_append, offs, offs, endOf, offs_app t b, List.cons_append]
theorem rblocks_f (l : List Int) (hl : l.length ≤ 10000) (k : Nat) (hk : 2 * l.length + 2 ≤ k) : masterdiscref21_Blocks.f k l = some (blocksB l) := by
  unfold masterdiscref21_Blocks.f blocksB
  rw [roffsets_f l hl k hk, Option.bind_some]
  unfold offsB
  by_cases h : l.all okS = true
  · rw [if_pos h, if_pos h, offs_length]
    rcases List.eq_nil_or_concat l with rfl | ⟨t, n, rfl⟩
    · rw [if_pos (show (([] : List Int).length : Int) = 0 from rfl)]; rfl
    · rw [List.concat_eq_append] at *
      have hm := all_mem h
      have hn := (okS_iff n).1 (hm n (by simp))
      have he := endOf_bd t 0 (Int.le_refl _) (fun x hx => hm x (by simp [hx]))
      have hb := place_bd (p := endOf 0 t) (n := n) (by omega) ⟨hn.1, hn.2.1⟩
      have hlen : (t ++ [n]).length = t.length + 1 := by rw [List.length_append]; rfl
      rw [hlen] at hl
      rw [hlen, if_neg (by omega), wrap_id (by omega) (by omega), if_pos (by omega), if_pos (by omega)]
      have hr : rd (offs 0 (t ++ [n])) (((t.length + 1 : Nat) : Int) - 1) = place (endOf 0 t) n := by
        rw [show ((t.length + 1 : Nat) : Int) - 1 = (t.length : Int) by omega, rd_nat _ _ (by rw [offs_length, hlen]; omega)]
        simp only [offs_app, offs]
        rw [List.getElem_append_right (by rw [offs_length]; exact Nat.le_refl _)]
        simp
      rw [hr, Int.tdiv_eq_ediv_of_nonneg (by omega), wrap_id (x := place (endOf 0 t) n / 2048) (by omega) (by omega), wrap_id (by omega) (by omega), endOf_app, endOf, endOf]
      congr 1; omega
  · rw [if_neg h, if_neg h, if_pos (show (([] : List Int).length : Int) = 0 from rfl)]
theorem equal_l (l : List Int) (hl : l.length ≤ 1000000) (j : Nat) : ∀ (k i : Nat), i + j = l.length → j + 1 ≤ k → slices_Equal_int_int.l0 k l l (l.length : Int) (i : Int) = some true := by
  induction j with
  | zero =>
    intro k i hi hk
    obtain ⟨k, rfl⟩ : ∃ m, k = m + 1 := ⟨k - 1, by omega⟩
    rw [slices_Equal_int_int.l0, if_neg (by omega)]
  | succ j ih =>
    intro k i hi hk
    obtain ⟨k, rfl⟩ : ∃ m, k = m + 1 := ⟨k - 1, by omega⟩
    have hw : wrap64 ((i : Int) + 1) = ((i + 1 : Nat) : Int) := by rw [wrap_id (by omega) (by omega)]; omega
    rw [slices_Equal_int_int.l0, if_pos (by omega), if_pos (by omega), if_pos (by omega), if_pos (by omega), if_pos rfl, hw, ih k (i + 1) (by omega) (by omega)]
theorem equal_self (l : List Int) (hl : l.length ≤ 1000000) (k : Nat) (hk : l.length + 1 ≤ k) : slices_Equal_int_int.f k l l = some true := by
  unfold slices_Equal_int_int.f
  rw [if_pos rfl]
  exact equal_l l hl l.length k 0 (by omega) (by omega)
theorem offsB_length (l : List Int) : (offsB l).length ≤ l.length := by
  unfold offsB
  split
  · rw [offs_length]; exact Nat.le_refl _
  · exact Nat.zero_le _
/-- DirectoryPlaces returns true. -/
theorem places_pure : masterdisclaw21_DirectoryPlaces.Pure := by
  intro l _ _ _
  refine ⟨1000, ?_⟩
  unfold masterdisclaw21_DirectoryPlaces.f masterdisclaw21_awake.f
  rw [Option.bind_some, if_pos rfl]
  by_cases h : (l.length : Int) > 300
  · rw [if_pos h]
  · have h3 := offsB_length l
    rw [if_neg h, blocks_f l (by omega) 1000 (by omega), Option.bind_some, rblocks_f l (by omega) 1000 (by omega), Option.bind_some, if_pos rfl, offsets_f l (by omega) 1000 (by omega), Option.bind_some, roffsets_f l (by omega) 1000 (by omega), Option.bind_some, equal_self _ (by omega) 1000 (by omega), Option.bind_some]

end Go.Proofs.YthblghfobnhoeaaGreat.Q
